-- By a program of this session (NOTES.md). Lean checks it.
import Derived.Test.YtfbbphpgiblhlaaPCrcSumsx0
import Derived.Lib.SmallJoins
namespace Go.Proofs.Ytfbbphpgiblhlaa.PCrcSums
open Go.RowKit Go.Proofs.YtfbbphpgiblhlaaW.PrintWords Go.Proofs.YtfbbphpgiblhlaaW.PrintLast Go.Proofs.YtfbbphpgiblhlaaW.PrintMore
attribute [local go_sem] max2_int min2_int max_two min_two max_three min_three max_four min_four   -- for this text's walks alone
set_option linter.unusedVariables false
set_option linter.unusedSimpArgs false

/-! ### crc_More: function 11 -/
mutual
def crc_More.l0 : Nat → Int → List Int → Int → Int → Option (Int)
  | 0, _, _, _, _ => none
  | k + 1, x5, x11, x12, x13 => if x13 < x12 then (if 0 ≤ x13 then (if x13 < (x11.length : Int) then (crc_More.l1 k (Go.bits .xor .u32 x5 ((rd x11 x13) % 4294967296)) x11 x12 x13 0) else (none)) else (none)) else (some (Go.bits .xor .u32 4294967295 x5))
def crc_More.l1 : Nat → Int → List Int → Int → Int → Int → Option (Int)
  | 0, _, _, _, _, _ => none
  | k + 1, x5, x11, x12, x13, x21 => if x21 < 8 then (if (Go.bits .and .u32 x5 1) = 1 then (crc_More.l1 k (Go.bits .xor .u32 (x5 / 2) 3988292384) x11 x12 x13 (wrap64 (x21 + 1))) else (crc_More.l1 k (x5 / 2) x11 x12 x13 (wrap64 (x21 + 1)))) else (crc_More.l0 k x5 x11 x12 (wrap64 (x13 + 1)))
end
def crc_More.f (k : Nat) (a0 : Int) (l1 : List Int) : Option (Int) := crc_More.l0 k (Go.bits .xor .u32 4294967295 a0) l1 (l1.length : Int) 0
theorem crc_More.mono_l : ∀ k, (∀ y0 y1 y2 y3, LeO (crc_More.l0 k y0 y1 y2 y3) (crc_More.l0 (k + 1) y0 y1 y2 y3)) ∧ (∀ y0 y1 y2 y3 y4, LeO (crc_More.l1 k y0 y1 y2 y3 y4) (crc_More.l1 (k + 1) y0 y1 y2 y3 y4))
  | 0 => ⟨fun _ _ _ _ r h => by simp [crc_More.l0] at h, fun _ _ _ _ _ r h => by simp [crc_More.l1] at h⟩
  | k + 1 => by
    obtain ⟨ih0, ih1⟩ := crc_More.mono_l k
    refine ⟨?_, ?_⟩
    · intro y0 y1 y2 y3
      unfold crc_More.l0
      repeat' first
      | (with_reducible exact ih0 _ _ _ _)
      | (with_reducible exact ih1 _ _ _ _ _)
      | (with_reducible exact LeO.refl _)
      | (with_reducible exact LeO.none _)
      | (with_reducible refine LeO.ite ?_ ?_)
      | (with_reducible refine LeO.bind ?_ (fun _ => ?_))
      | exact ih0 _ _ _ _
      | exact ih1 _ _ _ _ _
      | exact LeO.none _
      | refine LeO.ite ?_ ?_
      | refine LeO.bind ?_ (fun _ => ?_)
    · intro y0 y1 y2 y3 y4
      unfold crc_More.l1
      repeat' first
      | (with_reducible exact ih0 _ _ _ _)
      | (with_reducible exact ih1 _ _ _ _ _)
      | (with_reducible exact LeO.refl _)
      | (with_reducible exact LeO.none _)
      | (with_reducible refine LeO.ite ?_ ?_)
      | (with_reducible refine LeO.bind ?_ (fun _ => ?_))
      | exact ih0 _ _ _ _
      | exact ih1 _ _ _ _ _
      | exact LeO.none _
      | refine LeO.ite ?_ ?_
      | refine LeO.bind ?_ (fun _ => ?_)
theorem crc_More.mono : ∀ a0 a1 k, LeO (crc_More.f k a0 a1) (crc_More.f (k + 1) a0 a1) := by
  intro a0 a1 k
  obtain ⟨ih0, ih1⟩ := crc_More.mono_l k
  unfold crc_More.f
  repeat' first
      | (with_reducible exact ih0 _ _ _ _)
      | (with_reducible exact ih1 _ _ _ _ _)
      | (with_reducible exact LeO.refl _)
      | (with_reducible exact LeO.none _)
      | (with_reducible refine LeO.ite ?_ ?_)
      | (with_reducible refine LeO.bind ?_ (fun _ => ?_))
      | exact ih0 _ _ _ _
      | exact ih1 _ _ _ _ _
      | exact LeO.none _
      | refine LeO.ite ?_ ?_
      | refine LeO.bind ?_ (fun _ => ?_)
set_option maxHeartbeats 8000000 in
set_option maxRecDepth 100000 in
theorem crc_More.calls (k : Nat) (a0 : Int) (A1 : Option Addr) (c1 : Nat) (l1 : List Int) (r : Int) (w : World) (hr1 : Kd.C (Kd.int .u8) w A1 l1.length l1) (hc1 : l1.length ≤ c1) (h : crc_More.f k a0 l1 = some r) :
    Calls Try.prog 11 #[.int .u32 a0, .slice A1 l1.length c1] w fun e w' => e = .returned (.int .u32 r) ∧ Drawn0 w w' := by
  have HR1 := Aside0.mk hr1
  have HC1 := Aside0.mk hc1
  clear hr1 hc1
  have H : (crc_More.l0 k (Go.bits .xor .u32 4294967295 a0) l1 (l1.length : Int) 0) = some r := h
  clear h
  have H' := Aside0.mk H
  clear H
  go_enter Try.func11, Try.ntmps11
  go_wp2
  go_loopg [5, 13] k (fun kq v5 v13 w' => ∃ (x5_1 : Int) (x13_1 : Int), v5 = .int .u32 x5_1 ∧ v13 = .int .i64 x13_1 ∧ Aside0 (crc_More.l0 kq x5_1 l1 (l1.length : Int) x13_1 = some r) ∧ Aside0 (kq ≤ k) ∧ Drawn0 w w')
  case atStart => exact ⟨(Go.bits .xor .u32 4294967295 a0), (0), (by first | rfl | (simp; done) | (simp [*]; done)), (by first | rfl | (simp; done) | (simp [*]; done)), H', ⟨Nat.le_refl _⟩, by repeat (first | exact Drawn0.refl _ | apply Drawn0.step)⟩
  case round =>
    clear H'
    try clear c1
    try clear p2
    obtain ⟨x5_1, x13_1, rfl, rfl, HA, HK1, ⟨m1, rfl⟩⟩ := hrel
    cases gk with
    | zero => exact absurd HA.out (by simp [crc_More.l0])
    | succ k1 =>
      have H := HA.out
      clear HA
      simp only [crc_More.l0] at H
      by_cases c3 : x13_1 < (l1.length : Int)
      · rw [if_pos c3] at H
        have c3b0 : decide (x13_1 < (l1.length : Int)) = true := decide_eq_true c3
        clear c3
        by_cases c4 : 0 ≤ x13_1
        · rw [if_pos c4] at H
          have c4b0 : decide (0 ≤ x13_1) = true := decide_eq_true c4
          clear c4
          by_cases c5 : x13_1 < (l1.length : Int)
          · rw [if_pos c5] at H
            have c5b0 : decide (x13_1 < (l1.length : Int)) = true := decide_eq_true c5
            clear c5
            have H' := Aside0.mk H
            clear H
            have p101 : 0 ≤ (x13_1 : Int) := of_decide_eq_true (by first | (with_reducible assumption) | assumption)
            have q101 : x13_1 < (l1.length : Int) := of_decide_eq_true (by first | (with_reducible assumption) | assumption)
            obtain ⟨ad101, e101, hx101_0⟩ := Kd.at_int HR1.out x13_1 p101 q101
            cases e101
            replace p101 := eq_true p101
            replace q101 := eq_true q101
            go_wp2
            go_loopg [5, 21] k1 (fun kq v5 v21 w' => ∃ (x5_2 : Int) (x21_2 : Int), v5 = .int .u32 x5_2 ∧ v21 = .int .i64 x21_2 ∧ Aside0 (crc_More.l1 kq x5_2 l1 (l1.length : Int) x13_1 x21_2 = some r) ∧ Aside0 (kq ≤ k1) ∧ Drawn0 w w')
            case atStart => exact ⟨(Go.bits .xor .u32 x5_1 ((rd l1 x13_1) % 4294967296)), (0), (by first | rfl | (simp; done) | (simp [*]; done)), (by first | rfl | (simp; done) | (simp [*]; done)), H', ⟨Nat.le_refl _⟩, by repeat (first | exact Drawn0.refl _ | apply Drawn0.step)⟩
            case round =>
              clear H'
              try clear c1
              try clear p1
              try clear q1
              try clear hx1
              try clear p2
              try clear c3
              try clear c3b0
              try clear c4
              try clear c4b0
              try clear c5
              try clear c5b0
              try clear hx101_0
              try clear p101
              try clear p2
              try clear q101
              obtain ⟨x5_2, x21_2, rfl, rfl, HA, HK2, ⟨m2, rfl⟩⟩ := hrel
              cases gk with
              | zero => exact absurd HA.out (by simp [crc_More.l1])
              | succ k2 =>
                have H := HA.out
                clear HA
                simp only [crc_More.l1] at H
                by_cases c6 : x21_2 < 8
                · rw [if_pos c6] at H
                  have c6b0 : decide (x21_2 < 8) = true := decide_eq_true c6
                  clear c6
                  by_cases c7 : (Go.bits .and .u32 x5_2 1) = 1
                  · rw [if_pos c7] at H
                    have c7b0 : ((Go.bits .and .u32 x5_2 1) == 1) = true := beq_iff_eq.mpr c7
                    have c7b1 : ((Go.bits .and .u32 x5_2 1) != 1) = false := bne_eq_false_iff_eq.mpr c7
                    clear c7
                    have H' := Aside0.mk H
                    clear H
                    go_wp2
                    go_roundg k2
                    case measure => have := HK1.out; have := HK2.out; omega
                    case rel => exact ⟨(Go.bits .xor .u32 (x5_2 / 2) 3988292384), (wrap64 (x21_2 + 1)), (by first | rfl | (simp; done) | (simp [*]; done)), (by first | rfl | (simp; done) | (simp [*]; done)), H', ⟨by have := HK1.out; have := HK2.out; omega⟩, by repeat (first | exact Drawn0.refl _ | apply Drawn0.step)⟩
                  · rw [if_neg c7] at H
                    have c7b0 : ((Go.bits .and .u32 x5_2 1) == 1) = false := beq_eq_false_iff_ne.mpr c7
                    have c7b1 : ((Go.bits .and .u32 x5_2 1) != 1) = true := bne_iff_ne.mpr c7
                    have H' := Aside0.mk H
                    clear H
                    go_wp2
                    go_roundg k2
                    case measure => have := HK1.out; have := HK2.out; omega
                    case rel => exact ⟨(x5_2 / 2), (wrap64 (x21_2 + 1)), (by first | rfl | (simp; done) | (simp [*]; done)), (by first | rfl | (simp; done) | (simp [*]; done)), H', ⟨by have := HK1.out; have := HK2.out; omega⟩, by repeat (first | exact Drawn0.refl _ | apply Drawn0.step)⟩
                · rw [if_neg c6] at H
                  have c6b0 : decide (x21_2 < 8) = false := decide_eq_false c6
                  clear c6
                  have H' := Aside0.mk H
                  clear H
                  go_wp2
                  go_roundg k2
                  case measure => have := HK1.out; have := HK2.out; omega
                  case rel => exact ⟨(x5_2), (wrap64 (x13_1 + 1)), (by first | rfl | (simp; done) | (simp [*]; done)), (by first | rfl | (simp; done) | (simp [*]; done)), H', ⟨by have := HK1.out; have := HK2.out; omega⟩, by repeat (first | exact Drawn0.refl _ | apply Drawn0.step)⟩
          · rw [if_neg c5] at H
            exact absurd H (by simp)
        · rw [if_neg c4] at H
          exact absurd H (by simp)
      · rw [if_neg c3] at H
        have c3b0 : decide (x13_1 < (l1.length : Int)) = false := decide_eq_false c3
        clear c3
        obtain rfl := Option.some.inj H
        go_wp2
        go_ret
        exact ⟨by first | rfl | (simp; done) | (simp [*]; done), by repeat (first | exact Drawn0.refl _ | apply Drawn0.step)⟩

/-! ### crc_Sum: function 9 -/
def crc_Sum.f (k : Nat) (l0 : List Int) : Option (Int) := (crc_More.f k 0 l0).bind fun t102 => (some t102)
theorem crc_Sum.mono : ∀ a0 k, LeO (crc_Sum.f k a0) (crc_Sum.f (k + 1) a0) := by
  intro a0 k
  unfold crc_Sum.f
  repeat' first
      | (with_reducible exact crc_More.mono _ _ _)
      | (with_reducible exact LeO.refl _)
      | (with_reducible exact LeO.none _)
      | (with_reducible refine LeO.ite ?_ ?_)
      | (with_reducible refine LeO.bind ?_ (fun _ => ?_))
      | exact crc_More.mono _ _ _
      | exact LeO.none _
      | refine LeO.ite ?_ ?_
      | refine LeO.bind ?_ (fun _ => ?_)
set_option maxHeartbeats 8000000 in
set_option maxRecDepth 100000 in
theorem crc_Sum.calls (k : Nat) (A0 : Option Addr) (c0 : Nat) (l0 : List Int) (r : Int) (w : World) (hr0 : Kd.C (Kd.int .u8) w A0 l0.length l0) (hc0 : l0.length ≤ c0) (h : crc_Sum.f k l0 = some r) :
    Calls Try.prog 9 #[.slice A0 l0.length c0] w fun e w' => e = .returned (.int .u32 r) ∧ Drawn0 w w' := by
  have HR0 := Aside0.mk hr0
  have HC0 := Aside0.mk hc0
  clear hr0 hc0
  have H : ((crc_More.f k 0 l0).bind fun t102 => (some t102)) = some r := h
  clear h
  replace H := Option.bind_eq_some_iff.mp H
  obtain ⟨t102, A20, H⟩ := H
  replace H : (some t102) = some r := H
  have A2 := Aside0.mk A20
  clear A20
  obtain rfl := Option.some.inj H
  go_enter Try.func9, Try.ntmps9
  go_wp2_with (first | ((with_reducible refine gate_callee (f := 11) rfl ?_); refine goesL_ (some 4) rfl rfl Try.func11 (by kernel_rfl) rfl #[.int .u32 0, .slice A0 l0.length c0] rfl (by (try simp only [List.map_toArray, List.map_cons, List.map_nil]); first | done | rfl | (simp only [List.length_drop, List.length_take]; rfl)) ?_; (with_reducible refine (crc_More.calls k 0 _ _ l0 t102 _ ?side1 ?side2 A2.out).mono ?_); (case side1 => repeat (first | exact HR0.out | (with_reducible refine Kd.C_alloc ?_ _) | (with_reducible refine Kd.C_drewN ?_ _) | (with_reducible refine Kd.C_drew ?_))); (case side2 => exact HC0.out); rintro e w' ⟨rfl, ⟨nd, rfl⟩⟩; refine ⟨_, rfl, ?_⟩))
  go_ret
  exact ⟨by first | rfl | (simp; done) | (simp [*]; done), by repeat (first | exact Drawn0.refl _ | apply Drawn0.step)⟩

/-! ### ferrulelaw1_awake: function 8 -/
def ferrulelaw1_awake.f (k : Nat)  : Option (Bool) := (crc_Sum.f k (([49, 50, 51, 52, 53, 54, 55, 56, 57] : List Int))).bind fun t106 => (if t106 = 3421780262 then ((crc_Sum.f k (([49, 50, 51, 52] : List Int))).bind fun t110 => ((crc_More.f k t110 (([53, 54, 55, 56, 57] : List Int))).bind fun t114 => (some (t114 == 3421780262)))) else (some false))
theorem ferrulelaw1_awake.mono : ∀ k, LeO (ferrulelaw1_awake.f k ) (ferrulelaw1_awake.f (k + 1) ) := by
  intro  k
  unfold ferrulelaw1_awake.f
  repeat' first
      | (with_reducible exact crc_More.mono _ _ _)
      | (with_reducible exact crc_Sum.mono _ _)
      | (with_reducible exact LeO.refl _)
      | (with_reducible exact LeO.none _)
      | (with_reducible refine LeO.ite ?_ ?_)
      | (with_reducible refine LeO.bind ?_ (fun _ => ?_))
      | exact crc_More.mono _ _ _
      | exact crc_Sum.mono _ _
      | exact LeO.none _
      | refine LeO.ite ?_ ?_
      | refine LeO.bind ?_ (fun _ => ?_)
/-- A row of a new block, its bytes told. -/
theorem C_block {W : World} {g : Nat} {C : Array Value} {t : TypeId} {fr : Nat × Nat} {k : IntKind} (xs : List Int) (h : W.heap[g]? = some (.cells C t fr)) (hC : C = (xs.map (Value.int k)).toArray) (hl : xs.length ≤ 9223372036854775807) :
    Kd.C (Kd.int k) W (some ⟨g, 0, none⟩) xs.length xs := by
  refine ⟨rfl, hl, fun _ => ⟨_, rfl, fun j p hj => ⟨[.int k p], rfl, rfl, fun i u hu => ?_⟩⟩⟩
  have hi : i = 0 := by
    rcases Nat.lt_or_ge i 1 with h' | h'
    · omega
    · rw [List.getElem?_eq_none (by simpa using h')] at hu; cases hu
  subst hi
  simp at hu
  subst hu
  have e : (⟨g, 0, none⟩ : Addr).add (j * 1 + 0) = ⟨g, j, none⟩ := by
    unfold Addr.add
    by_cases h0 : j = 0 <;> simp [h0]
  show W.cell? ((⟨g, 0, none⟩ : Addr).add (j * 1 + 0)) = _
  rw [e]
  simp [World.cell?, h, hC, hj]
theorem new_at (W : World) (o : Obj) (g : Nat) (hg : g = W.heap.size) : (W.alloc o).heap[g]? = some o := by subst hg; exact heap_alloc_new W o
theorem cv25 (w : World) (C : Array Value) (n c g : Nat) (hg : g = w.heap.size) :
    (convert 25 25 (.slice (some ⟨g, 0, none⟩) n c)).run Try.prog (w.alloc (.cells C 5)) = .ok (.slice (some ⟨g, 0, none⟩) n c) (w.alloc (.cells C 5 (C.size, C.size + 1))) :=
  Joins.run_convert_bytes_const_at w 25 5 C n c g hg Try.underlying25 Try.underlying5
attribute [local go_sem] cv25
theorem s1 (k : Nat) (t : Int) (W : World) (g : Nat) (C : Array Value) (T : Nat) (fr : Nat × Nat) (hg : W.heap[g]? = some (.cells C T fr)) (hC : C = #[.int .u8 49, .int .u8 50, .int .u8 51, .int .u8 52, .int .u8 53, .int .u8 54, .int .u8 55, .int .u8 56, .int .u8 57]) (h : crc_Sum.f k [49, 50, 51, 52, 53, 54, 55, 56, 57] = some t) :
    Calls Try.prog 9 #[.slice (some ⟨g, 0, none⟩) 9 9] W fun e w' => e = .returned (.int .u32 t) ∧ Drawn0 W w' :=
  crc_Sum.calls k _ 9 [49, 50, 51, 52, 53, 54, 55, 56, 57] t W (C_block _ hg (by rw [hC]; rfl) (by decide)) (by decide) h
theorem s2 (k : Nat) (t : Int) (W : World) (g : Nat) (C : Array Value) (T : Nat) (fr : Nat × Nat) (hg : W.heap[g]? = some (.cells C T fr)) (hC : C = #[.int .u8 49, .int .u8 50, .int .u8 51, .int .u8 52]) (h : crc_Sum.f k [49, 50, 51, 52] = some t) :
    Calls Try.prog 9 #[.slice (some ⟨g, 0, none⟩) 4 4] W fun e w' => e = .returned (.int .u32 t) ∧ Drawn0 W w' :=
  crc_Sum.calls k _ 4 [49, 50, 51, 52] t W (C_block _ hg (by rw [hC]; rfl) (by decide)) (by decide) h
theorem s3 (k : Nat) (s t : Int) (W : World) (g : Nat) (C : Array Value) (T : Nat) (fr : Nat × Nat) (hg : W.heap[g]? = some (.cells C T fr)) (hC : C = #[.int .u8 53, .int .u8 54, .int .u8 55, .int .u8 56, .int .u8 57]) (h : crc_More.f k s [53, 54, 55, 56, 57] = some t) :
    Calls Try.prog 11 #[.int .u32 s, .slice (some ⟨g, 0, none⟩) 5 5] W fun e w' => e = .returned (.int .u32 t) ∧ Drawn0 W w' :=
  crc_More.calls k _ _ 5 [53, 54, 55, 56, 57] t W (C_block _ hg (by rw [hC]; rfl) (by decide)) (by decide) h
set_option maxHeartbeats 8000000 in
set_option maxRecDepth 100000 in
theorem ferrulelaw1_awake.calls (k : Nat) (r : Bool) (w : World) (h : ferrulelaw1_awake.f k = some r) :
    Calls Try.prog 8 #[] w fun e w' => e = .returned (.bool r) ∧ Below w.heap.size w w' := by
  have H := h
  unfold ferrulelaw1_awake.f at H
  clear h
  replace H := Option.bind_eq_some_iff.mp H
  obtain ⟨t1, A1, H⟩ := H
  by_cases c1 : t1 = 3421780262
  · rw [if_pos c1] at H
    replace H := Option.bind_eq_some_iff.mp H
    obtain ⟨t2, A2, H⟩ := H
    replace H := Option.bind_eq_some_iff.mp H
    obtain ⟨t3, A3, H⟩ := H
    obtain rfl := Option.some.inj H
    have A1' := Aside0.mk A1
    have A2' := Aside0.mk A2
    have A3' := Aside0.mk A3
    clear A1 A2 A3 H
    have cb : (t1 == 3421780262) = true := beq_iff_eq.mpr c1
    clear c1
    go_enter Try.func8, Try.ntmps8
    go_wp2_with (first
      | (go_at_call 9; ((with_reducible refine (s1 k t1 _ _ _ 5 (9, 10) (new_at _ _ _ (by simp)) rfl A1'.out).mono ?_); rintro e w' ⟨rfl, ⟨n, rfl⟩⟩))
      | (go_at_call 9; ((with_reducible refine (s2 k t2 _ _ _ 5 (4, 5) (new_at _ _ _ (by simp)) rfl A2'.out).mono ?_); rintro e w' ⟨rfl, ⟨n, rfl⟩⟩))
      | (go_at_call 11; ((with_reducible refine (s3 k _ t3 _ _ _ 5 (5, 6) (new_at _ _ _ (by simp)) rfl A3'.out).mono ?_); rintro e w' ⟨rfl, ⟨n, rfl⟩⟩)))
    go_ret
    exact ⟨rfl, by repeat (first | exact Below.refl _ _ | apply below_alloc | apply pw_below_drewN | apply below_drew1)⟩
  · rw [if_neg c1] at H
    obtain rfl := Option.some.inj H
    have A1' := Aside0.mk A1
    clear A1 H
    have cb : (t1 == 3421780262) = false := beq_eq_false_iff_ne.mpr c1
    clear c1
    go_enter Try.func8, Try.ntmps8
    go_wp2_with (first
      | (go_at_call 9; ((with_reducible refine (s1 k t1 _ _ _ 5 (9, 10) (new_at _ _ _ (by simp)) rfl A1'.out).mono ?_); rintro e w' ⟨rfl, ⟨n, rfl⟩⟩)))
    go_ret
    exact ⟨rfl, by repeat (first | exact Below.refl _ _ | apply below_alloc | apply pw_below_drewN | apply below_drew1)⟩


/-! ### ferruleref1_bit: function 13 -/
def ferruleref1_bit.f (a0 : Int) (a1 : Int) : Option (Int) := if (Go.bits .and .u32 (Go.bits .xor .u32 a0 a1) 1) = 1 then (some (Go.bits .xor .u32 (a0 / 2) 3988292384)) else (some (a0 / 2))
set_option maxHeartbeats 8000000 in
set_option maxRecDepth 100000 in
theorem ferruleref1_bit.calls (a0 : Int) (a1 : Int) (r : Int) (w : World) (h : ferruleref1_bit.f a0 a1 = some r) :
    Calls Try.prog 13 #[.int .u32 a0, .int .u32 a1] w fun e w' => e = .returned (.int .u32 r) ∧ Drawn0 w w' := by
  have H : (if (Go.bits .and .u32 (Go.bits .xor .u32 a0 a1) 1) = 1 then (some (Go.bits .xor .u32 (a0 / 2) 3988292384)) else (some (a0 / 2))) = some r := h
  clear h
  by_cases c3 : (Go.bits .and .u32 (Go.bits .xor .u32 a0 a1) 1) = 1
  · rw [if_pos c3] at H
    have c3b0 : ((Go.bits .and .u32 (Go.bits .xor .u32 a0 a1) 1) == 1) = true := beq_iff_eq.mpr c3
    have c3b1 : ((Go.bits .and .u32 (Go.bits .xor .u32 a0 a1) 1) != 1) = false := bne_eq_false_iff_eq.mpr c3
    clear c3
    obtain rfl := Option.some.inj H
    go_enter Try.func13, Try.ntmps13
    go_wp2
    go_ret
    exact ⟨by first | rfl | (simp; done) | (simp [*]; done), by repeat (first | exact Drawn0.refl _ | apply Drawn0.step)⟩
  · rw [if_neg c3] at H
    have c3b0 : ((Go.bits .and .u32 (Go.bits .xor .u32 a0 a1) 1) == 1) = false := beq_eq_false_iff_ne.mpr c3
    have c3b1 : ((Go.bits .and .u32 (Go.bits .xor .u32 a0 a1) 1) != 1) = true := bne_iff_ne.mpr c3
    obtain rfl := Option.some.inj H
    go_enter Try.func13, Try.ntmps13
    go_wp2
    go_ret
    exact ⟨by first | rfl | (simp; done) | (simp [*]; done), by repeat (first | exact Drawn0.refl _ | apply Drawn0.step)⟩

/-! ### ferruleref1_More: function 12 -/
mutual
def ferruleref1_More.l0 : Nat → List Int → Int → Int → Option (Int)
  | 0, _, _, _ => none
  | k + 1, x1, x5, x6 => if x6 < (x1.length : Int) then (ferruleref1_More.l1 k x1 x5 x6 0) else (some (Go.bits .xor .u32 x5 4294967295))
def ferruleref1_More.l1 : Nat → List Int → Int → Int → Int → Option (Int)
  | 0, _, _, _, _ => none
  | k + 1, x1, x5, x6, x7 => if x7 < 8 then (if 0 ≤ x6 then (if x6 < (x1.length : Int) then (if 0 ≤ (IntKind.u64.wrap (x7)) then ((ferruleref1_bit.f x5 (Go.bits .and .u32 ((shr .u8 (rd x1 x6) (IntKind.u64.wrap (x7))) % 4294967296) 1)).bind fun t116 => (ferruleref1_More.l1 k x1 t116 x6 (wrap64 (x7 + 1)))) else (none)) else (none)) else (none)) else (ferruleref1_More.l0 k x1 x5 (wrap64 (x6 + 1)))
end
def ferruleref1_More.f (k : Nat) (a0 : Int) (l1 : List Int) : Option (Int) := ferruleref1_More.l0 k l1 (Go.bits .xor .u32 a0 4294967295) 0
theorem ferruleref1_More.mono_l : ∀ k, (∀ y0 y1 y2, LeO (ferruleref1_More.l0 k y0 y1 y2) (ferruleref1_More.l0 (k + 1) y0 y1 y2)) ∧ (∀ y0 y1 y2 y3, LeO (ferruleref1_More.l1 k y0 y1 y2 y3) (ferruleref1_More.l1 (k + 1) y0 y1 y2 y3))
  | 0 => ⟨fun _ _ _ r h => by simp [ferruleref1_More.l0] at h, fun _ _ _ _ r h => by simp [ferruleref1_More.l1] at h⟩
  | k + 1 => by
    obtain ⟨ih0, ih1⟩ := ferruleref1_More.mono_l k
    refine ⟨?_, ?_⟩
    · intro y0 y1 y2
      unfold ferruleref1_More.l0
      repeat' first
      | (with_reducible exact ih0 _ _ _)
      | (with_reducible exact ih1 _ _ _ _)
      | (with_reducible exact LeO.refl _)
      | (with_reducible exact LeO.none _)
      | (with_reducible refine LeO.ite ?_ ?_)
      | (with_reducible refine LeO.bind ?_ (fun _ => ?_))
      | exact ih0 _ _ _
      | exact ih1 _ _ _ _
      | exact LeO.none _
      | refine LeO.ite ?_ ?_
      | refine LeO.bind ?_ (fun _ => ?_)
    · intro y0 y1 y2 y3
      unfold ferruleref1_More.l1
      repeat' first
      | (with_reducible exact ih0 _ _ _)
      | (with_reducible exact ih1 _ _ _ _)
      | (with_reducible exact LeO.refl _)
      | (with_reducible exact LeO.none _)
      | (with_reducible refine LeO.ite ?_ ?_)
      | (with_reducible refine LeO.bind ?_ (fun _ => ?_))
      | exact ih0 _ _ _
      | exact ih1 _ _ _ _
      | exact LeO.none _
      | refine LeO.ite ?_ ?_
      | refine LeO.bind ?_ (fun _ => ?_)
theorem ferruleref1_More.mono : ∀ a0 a1 k, LeO (ferruleref1_More.f k a0 a1) (ferruleref1_More.f (k + 1) a0 a1) := by
  intro a0 a1 k
  obtain ⟨ih0, ih1⟩ := ferruleref1_More.mono_l k
  unfold ferruleref1_More.f
  repeat' first
      | (with_reducible exact ih0 _ _ _)
      | (with_reducible exact ih1 _ _ _ _)
      | (with_reducible exact LeO.refl _)
      | (with_reducible exact LeO.none _)
      | (with_reducible refine LeO.ite ?_ ?_)
      | (with_reducible refine LeO.bind ?_ (fun _ => ?_))
      | exact ih0 _ _ _
      | exact ih1 _ _ _ _
      | exact LeO.none _
      | refine LeO.ite ?_ ?_
      | refine LeO.bind ?_ (fun _ => ?_)
set_option maxHeartbeats 8000000 in
set_option maxRecDepth 100000 in
theorem ferruleref1_More.calls (k : Nat) (a0 : Int) (A1 : Option Addr) (c1 : Nat) (l1 : List Int) (r : Int) (w : World) (hr1 : Kd.C (Kd.int .u8) w A1 l1.length l1) (hc1 : l1.length ≤ c1) (h : ferruleref1_More.f k a0 l1 = some r) :
    Calls Try.prog 12 #[.int .u32 a0, .slice A1 l1.length c1] w fun e w' => e = .returned (.int .u32 r) ∧ Drawn0 w w' := by
  have HR1 := Aside0.mk hr1
  have HC1 := Aside0.mk hc1
  clear hr1 hc1
  have H : (ferruleref1_More.l0 k l1 (Go.bits .xor .u32 a0 4294967295) 0) = some r := h
  clear h
  have H' := Aside0.mk H
  clear H
  go_enter Try.func12, Try.ntmps12
  go_wp2
  go_loopg [5, 6] k (fun kq v5 v6 w' => ∃ (x5_1 : Int) (x6_1 : Int), v5 = .int .u32 x5_1 ∧ v6 = .int .i64 x6_1 ∧ Aside0 (ferruleref1_More.l0 kq l1 x5_1 x6_1 = some r) ∧ Aside0 (kq ≤ k) ∧ Drawn0 w w')
  case atStart => exact ⟨(Go.bits .xor .u32 a0 4294967295), (0), (by first | rfl | (simp; done) | (simp [*]; done)), (by first | rfl | (simp; done) | (simp [*]; done)), H', ⟨Nat.le_refl _⟩, by repeat (first | exact Drawn0.refl _ | apply Drawn0.step)⟩
  case round =>
    clear H'
    try clear c1
    try clear p2
    obtain ⟨x5_1, x6_1, rfl, rfl, HA, HK1, ⟨m1, rfl⟩⟩ := hrel
    cases gk with
    | zero => exact absurd HA.out (by simp [ferruleref1_More.l0])
    | succ k1 =>
      have H := HA.out
      clear HA
      simp only [ferruleref1_More.l0] at H
      by_cases c3 : x6_1 < (l1.length : Int)
      · rw [if_pos c3] at H
        have c3b0 : decide (x6_1 < (l1.length : Int)) = true := decide_eq_true c3
        clear c3
        have H' := Aside0.mk H
        clear H
        go_wp2
        go_loopg [5, 7] k1 (fun kq v5 v7 w' => ∃ (x5_2 : Int) (x7_2 : Int), v5 = .int .u32 x5_2 ∧ v7 = .int .i64 x7_2 ∧ Aside0 (ferruleref1_More.l1 kq l1 x5_2 x6_1 x7_2 = some r) ∧ Aside0 (kq ≤ k1) ∧ Drawn0 w w')
        case atStart => exact ⟨(x5_1), (0), (by first | rfl | (simp; done) | (simp [*]; done)), (by first | rfl | (simp; done) | (simp [*]; done)), H', ⟨Nat.le_refl _⟩, by repeat (first | exact Drawn0.refl _ | apply Drawn0.step)⟩
        case round =>
          clear H'
          try clear c1
          try clear p2
          try clear c3
          try clear c3b0
          try clear p2
          obtain ⟨x5_2, x7_2, rfl, rfl, HA, HK2, ⟨m2, rfl⟩⟩ := hrel
          cases gk with
          | zero => exact absurd HA.out (by simp [ferruleref1_More.l1])
          | succ k2 =>
            have H := HA.out
            clear HA
            simp only [ferruleref1_More.l1] at H
            by_cases c4 : x7_2 < 8
            · rw [if_pos c4] at H
              have c4b0 : decide (x7_2 < 8) = true := decide_eq_true c4
              clear c4
              by_cases c5 : 0 ≤ x6_1
              · rw [if_pos c5] at H
                have c5b0 : decide (0 ≤ x6_1) = true := decide_eq_true c5
                clear c5
                by_cases c6 : x6_1 < (l1.length : Int)
                · rw [if_pos c6] at H
                  have c6b0 : decide (x6_1 < (l1.length : Int)) = true := decide_eq_true c6
                  clear c6
                  obtain ⟨ji7, hji7⟩ : ∃ j_ : Int, (IntKind.u64.wrap (x7_2)) = j_ := ⟨_, rfl⟩
                  replace H : (if 0 ≤ (ji7) then ((ferruleref1_bit.f x5_2 (Go.bits .and .u32 ((shr .u8 (rd l1 x6_1) (ji7)) % 4294967296) 1)).bind fun t116 => (ferruleref1_More.l1 k2 l1 t116 x6_1 (wrap64 (x7_2 + 1)))) else (none)) = some r := by first | (rw [hji7] at H; exact H) | (simp only [hji7] at H ⊢; exact H)
                  by_cases c8 : 0 ≤ (ji7)
                  · rw [if_pos c8] at H
                    have c8b0 := eq_true c8
                    have c8b1 : decide (0 ≤ (ji7)) = true := decide_eq_true c8
                    clear c8
                    obtain ⟨ji9, hji9⟩ : ∃ j_ : Int, (shr .u8 (rd l1 x6_1) (ji7)) = j_ := ⟨_, rfl⟩
                    replace H : ((ferruleref1_bit.f x5_2 (Go.bits .and .u32 ((ji9) % 4294967296) 1)).bind fun t116 => (ferruleref1_More.l1 k2 l1 t116 x6_1 (wrap64 (x7_2 + 1)))) = some r := by first | (rw [hji9] at H; exact H) | (simp only [hji9] at H ⊢; exact H)
                    have hji9_ : ((rd l1 x6_1) / 2 ^ min (ji7).toNat 8) = ji9 := hji9
                    have hji9z : (ji7) ≤ 8 → ((rd l1 x6_1) / 2 ^ (ji7).toNat) = ji9 := shr_small hji9
                    replace H := Option.bind_eq_some_iff.mp H
                    obtain ⟨t116, A100, H⟩ := H
                    replace H : (ferruleref1_More.l1 k2 l1 t116 x6_1 (wrap64 (x7_2 + 1))) = some r := H
                    have A10 := Aside0.mk A100
                    clear A100
                    have H' := Aside0.mk H
                    clear H
                    have p115 : 0 ≤ (x6_1 : Int) := of_decide_eq_true (by first | (with_reducible assumption) | assumption)
                    have q115 : x6_1 < (l1.length : Int) := of_decide_eq_true (by first | (with_reducible assumption) | assumption)
                    obtain ⟨ad115, e115, hx115_0⟩ := Kd.at_int HR1.out x6_1 p115 q115
                    cases e115
                    replace p115 := eq_true p115
                    replace q115 := eq_true q115
                    go_wp2_with (first | ((with_reducible refine gate_callee (f := 13) rfl ?_); refine goesL_ (some 30) rfl rfl Try.func13 (by kernel_rfl) rfl #[.int .u32 x5_2, .int .u32 (Go.bits .and .u32 ((ji9) % 4294967296) 1)] rfl (by (try simp only [List.map_toArray, List.map_cons, List.map_nil]); first | done | (simp only [hji9]; rfl) | rfl | (simp only [List.length_drop, List.length_take]; rfl)) ?_; (with_reducible refine (ferruleref1_bit.calls x5_2 (Go.bits .and .u32 ((ji9) % 4294967296) 1) t116 _ A10.out).mono ?_); rintro e w' ⟨rfl, ⟨nd, rfl⟩⟩; refine ⟨_, rfl, ?_⟩))
                    go_roundg k2
                    case measure => have := HK1.out; have := HK2.out; omega
                    case rel => exact ⟨(t116), (wrap64 (x7_2 + 1)), (by first | rfl | (simp; done) | (simp [*]; done)), (by first | rfl | (simp; done) | (simp [*]; done)), H', ⟨by have := HK1.out; have := HK2.out; omega⟩, by repeat (first | exact Drawn0.refl _ | apply Drawn0.step)⟩
                  · rw [if_neg c8] at H
                    exact absurd H (by simp)
                · rw [if_neg c6] at H
                  exact absurd H (by simp)
              · rw [if_neg c5] at H
                exact absurd H (by simp)
            · rw [if_neg c4] at H
              have c4b0 : decide (x7_2 < 8) = false := decide_eq_false c4
              clear c4
              have H' := Aside0.mk H
              clear H
              go_wp2
              go_roundg k2
              case measure => have := HK1.out; have := HK2.out; omega
              case rel => exact ⟨(x5_2), (wrap64 (x6_1 + 1)), (by first | rfl | (simp; done) | (simp [*]; done)), (by first | rfl | (simp; done) | (simp [*]; done)), H', ⟨by have := HK1.out; have := HK2.out; omega⟩, by repeat (first | exact Drawn0.refl _ | apply Drawn0.step)⟩
      · rw [if_neg c3] at H
        have c3b0 : decide (x6_1 < (l1.length : Int)) = false := decide_eq_false c3
        clear c3
        obtain rfl := Option.some.inj H
        go_wp2
        go_ret
        exact ⟨by first | rfl | (simp; done) | (simp [*]; done), by repeat (first | exact Drawn0.refl _ | apply Drawn0.step)⟩

/-! ### ferruleref1_Sum: function 10 -/
def ferruleref1_Sum.f (k : Nat) (l0 : List Int) : Option (Int) := (ferruleref1_More.f k 0 l0).bind fun t117 => (some t117)
theorem ferruleref1_Sum.mono : ∀ a0 k, LeO (ferruleref1_Sum.f k a0) (ferruleref1_Sum.f (k + 1) a0) := by
  intro a0 k
  unfold ferruleref1_Sum.f
  repeat' first
      | (with_reducible exact ferruleref1_More.mono _ _ _)
      | (with_reducible exact LeO.refl _)
      | (with_reducible exact LeO.none _)
      | (with_reducible refine LeO.ite ?_ ?_)
      | (with_reducible refine LeO.bind ?_ (fun _ => ?_))
      | exact ferruleref1_More.mono _ _ _
      | exact LeO.none _
      | refine LeO.ite ?_ ?_
      | refine LeO.bind ?_ (fun _ => ?_)
set_option maxHeartbeats 8000000 in
set_option maxRecDepth 100000 in
theorem ferruleref1_Sum.calls (k : Nat) (A0 : Option Addr) (c0 : Nat) (l0 : List Int) (r : Int) (w : World) (hr0 : Kd.C (Kd.int .u8) w A0 l0.length l0) (hc0 : l0.length ≤ c0) (h : ferruleref1_Sum.f k l0 = some r) :
    Calls Try.prog 10 #[.slice A0 l0.length c0] w fun e w' => e = .returned (.int .u32 r) ∧ Drawn0 w w' := by
  have HR0 := Aside0.mk hr0
  have HC0 := Aside0.mk hc0
  clear hr0 hc0
  have H : ((ferruleref1_More.f k 0 l0).bind fun t117 => (some t117)) = some r := h
  clear h
  replace H := Option.bind_eq_some_iff.mp H
  obtain ⟨t117, A20, H⟩ := H
  replace H : (some t117) = some r := H
  have A2 := Aside0.mk A20
  clear A20
  obtain rfl := Option.some.inj H
  go_enter Try.func10, Try.ntmps10
  go_wp2_with (first | ((with_reducible refine gate_callee (f := 12) rfl ?_); refine goesL_ (some 4) rfl rfl Try.func12 (by kernel_rfl) rfl #[.int .u32 0, .slice A0 l0.length c0] rfl (by (try simp only [List.map_toArray, List.map_cons, List.map_nil]); first | done | rfl | (simp only [List.length_drop, List.length_take]; rfl)) ?_; (with_reducible refine (ferruleref1_More.calls k 0 _ _ l0 t117 _ ?side1 ?side2 A2.out).mono ?_); (case side1 => repeat (first | exact HR0.out | (with_reducible refine Kd.C_alloc ?_ _) | (with_reducible refine Kd.C_drewN ?_ _) | (with_reducible refine Kd.C_drew ?_))); (case side2 => exact HC0.out); rintro e w' ⟨rfl, ⟨nd, rfl⟩⟩; refine ⟨_, rfl, ?_⟩))
  go_ret
  exact ⟨by first | rfl | (simp; done) | (simp [*]; done), by repeat (first | exact Drawn0.refl _ | apply Drawn0.step)⟩

/-! ### ferrulelaw1_CrcSums: function 4 -/
def ferrulelaw1_CrcSums.f (k : Nat) (l0 : List Int) (a1 : Int) : Option (Bool) := if (strOfNums l0).size ≤ 140737488355328 then ((some (Kd.bytesNums (strOfNums l0) : List Int)).bind fun y118 => (if y118.length < 140737488355328 then ((some (y118 ++ [7] : List Int)).bind fun y121 => ((ferrulelaw1_awake.f k).bind fun t124 => (if t124 = true then (if 0 ≤ (l0.length : Int) then (if (l0.length : Int) ≤ (y121.length : Int) then ((crc_Sum.f k (y121.take ((l0.length : Int) : Int).toNat)).bind fun t129 => ((ferruleref1_Sum.f k l0).bind fun t130 => (if t129 = t130 then ((crc_More.f k a1 (y121.take ((l0.length : Int) : Int).toNat)).bind fun t135 => ((ferruleref1_More.f k a1 l0).bind fun t136 => (if t135 = t136 then (if (strOfNums l0).size + 1 ≤ 9223372036854775807 then (some ((strOfNums y121).toList == ((strOfNums l0) ++ (⟨#[7]⟩ : ByteArray)).toList)) else (none)) else (some false)))) else (some false)))) else (none)) else (none)) else (some false)))) else (none))) else (none)
theorem ferrulelaw1_CrcSums.mono : ∀ a0 a1 k, LeO (ferrulelaw1_CrcSums.f k a0 a1) (ferrulelaw1_CrcSums.f (k + 1) a0 a1) := by
  intro a0 a1 k
  unfold ferrulelaw1_CrcSums.f
  repeat' first
      | (with_reducible exact crc_More.mono _ _ _)
      | (with_reducible exact crc_Sum.mono _ _)
      | (with_reducible exact ferrulelaw1_awake.mono _)
      | (with_reducible exact ferruleref1_More.mono _ _ _)
      | (with_reducible exact ferruleref1_Sum.mono _ _)
      | (with_reducible exact LeO.refl _)
      | (with_reducible exact LeO.none _)
      | (with_reducible refine LeO.ite ?_ ?_)
      | (with_reducible refine LeO.bind ?_ (fun _ => ?_))
      | exact crc_More.mono _ _ _
      | exact crc_Sum.mono _ _
      | exact ferrulelaw1_awake.mono _
      | exact ferruleref1_More.mono _ _ _
      | exact ferruleref1_Sum.mono _ _
      | exact LeO.none _
      | refine LeO.ite ?_ ?_
      | refine LeO.bind ?_ (fun _ => ?_)
set_option maxHeartbeats 8000000 in
set_option maxRecDepth 100000 in
theorem ferrulelaw1_CrcSums.calls (k : Nat) (A0 : Option Addr) (c0 : Nat) (l0 : List Int) (a1 : Int) (r : Bool) (w : World) (hr0 : Kd.C (Kd.int .u8) w A0 l0.length l0) (hc0 : l0.length ≤ c0) (h : ferrulelaw1_CrcSums.f k l0 a1 = some r) :
    Calls Try.prog 4 #[.slice A0 l0.length c0, .int .u32 a1] w fun e w' => e = .returned (.bool r) ∧ Below w.heap.size w w' := by
  have HR0 := Aside0.mk hr0
  have HC0 := Aside0.mk hc0
  clear hr0 hc0
  have HB := Aside0.mk (Below.refl w.heap.size w)
  have H : (if (strOfNums l0).size ≤ 140737488355328 then ((some (Kd.bytesNums (strOfNums l0) : List Int)).bind fun y118 => (if y118.length < 140737488355328 then ((some (y118 ++ [7] : List Int)).bind fun y121 => ((ferrulelaw1_awake.f k).bind fun t124 => (if t124 = true then (if 0 ≤ (l0.length : Int) then (if (l0.length : Int) ≤ (y121.length : Int) then ((crc_Sum.f k (y121.take ((l0.length : Int) : Int).toNat)).bind fun t129 => ((ferruleref1_Sum.f k l0).bind fun t130 => (if t129 = t130 then ((crc_More.f k a1 (y121.take ((l0.length : Int) : Int).toNat)).bind fun t135 => ((ferruleref1_More.f k a1 l0).bind fun t136 => (if t135 = t136 then (if (strOfNums l0).size + 1 ≤ 9223372036854775807 then (some ((strOfNums y121).toList == ((strOfNums l0) ++ (⟨#[7]⟩ : ByteArray)).toList)) else (none)) else (some false)))) else (some false)))) else (none)) else (none)) else (some false)))) else (none))) else (none)) = some r := h
  clear h
  by_cases c3 : (strOfNums l0).size ≤ 140737488355328
  · rw [if_pos c3] at H
    have c3b0 := eq_true c3
    have c3b1 : decide ((strOfNums l0).size ≤ 140737488355328) = true := decide_eq_true c3
    clear c3
    obtain ⟨y118, hy118⟩ : ∃ y_ : List Int, y_ = (Kd.bytesNums (strOfNums l0)) := ⟨_, rfl⟩
    replace H : (if y118.length < 140737488355328 then ((some (y118 ++ [7] : List Int)).bind fun y121 => ((ferrulelaw1_awake.f k).bind fun t124 => (if t124 = true then (if 0 ≤ (l0.length : Int) then (if (l0.length : Int) ≤ (y121.length : Int) then ((crc_Sum.f k (y121.take ((l0.length : Int) : Int).toNat)).bind fun t129 => ((ferruleref1_Sum.f k l0).bind fun t130 => (if t129 = t130 then ((crc_More.f k a1 (y121.take ((l0.length : Int) : Int).toNat)).bind fun t135 => ((ferruleref1_More.f k a1 l0).bind fun t136 => (if t135 = t136 then (if (strOfNums l0).size + 1 ≤ 9223372036854775807 then (some ((strOfNums y121).toList == ((strOfNums l0) ++ (⟨#[7]⟩ : ByteArray)).toList)) else (none)) else (some false)))) else (some false)))) else (none)) else (none)) else (some false)))) else (none)) = some r := by first | (rw [hy118]; with_reducible exact H) | (have H2_ := (Option.bind_some _ _).symm.trans H; rw [hy118]; with_reducible exact H2_) | (have H2_ := (Option.bind_some _ _).symm.trans H; with_reducible exact H2_) | with_reducible exact H | (rw [hy118]; exact H) | exact H
    have Ny118 := Aside0.mk hy118
    clear hy118
    by_cases c4 : y118.length < 140737488355328
    · rw [if_pos c4] at H
      have LMc4 := Aside0.mk c4
      clear c4
      obtain ⟨y121, hy121⟩ : ∃ y_ : List Int, y_ = (y118 ++ [7]) := ⟨_, rfl⟩
      replace H : ((ferrulelaw1_awake.f k).bind fun t124 => (if t124 = true then (if 0 ≤ (l0.length : Int) then (if (l0.length : Int) ≤ (y121.length : Int) then ((crc_Sum.f k (y121.take ((l0.length : Int) : Int).toNat)).bind fun t129 => ((ferruleref1_Sum.f k l0).bind fun t130 => (if t129 = t130 then ((crc_More.f k a1 (y121.take ((l0.length : Int) : Int).toNat)).bind fun t135 => ((ferruleref1_More.f k a1 l0).bind fun t136 => (if t135 = t136 then (if (strOfNums l0).size + 1 ≤ 9223372036854775807 then (some ((strOfNums y121).toList == ((strOfNums l0) ++ (⟨#[7]⟩ : ByteArray)).toList)) else (none)) else (some false)))) else (some false)))) else (none)) else (none)) else (some false))) = some r := by first | (rw [hy121]; with_reducible exact H) | (have H2_ := (Option.bind_some _ _).symm.trans H; rw [hy121]; with_reducible exact H2_) | (have H2_ := (Option.bind_some _ _).symm.trans H; with_reducible exact H2_) | with_reducible exact H | (rw [hy121]; exact H) | exact H
      have Ny121 := Aside0.mk hy121
      clear hy121
      replace H := Option.bind_eq_some_iff.mp H
      obtain ⟨t124, A50, H⟩ := H
      replace H : (if t124 = true then (if 0 ≤ (l0.length : Int) then (if (l0.length : Int) ≤ (y121.length : Int) then ((crc_Sum.f k (y121.take ((l0.length : Int) : Int).toNat)).bind fun t129 => ((ferruleref1_Sum.f k l0).bind fun t130 => (if t129 = t130 then ((crc_More.f k a1 (y121.take ((l0.length : Int) : Int).toNat)).bind fun t135 => ((ferruleref1_More.f k a1 l0).bind fun t136 => (if t135 = t136 then (if (strOfNums l0).size + 1 ≤ 9223372036854775807 then (some ((strOfNums y121).toList == ((strOfNums l0) ++ (⟨#[7]⟩ : ByteArray)).toList)) else (none)) else (some false)))) else (some false)))) else (none)) else (none)) else (some false)) = some r := H
      have A5 := Aside0.mk A50
      clear A50
      by_cases c6 : t124 = true
      · subst c6
        have H1 : (if 0 ≤ (l0.length : Int) then (if (l0.length : Int) ≤ (y121.length : Int) then ((crc_Sum.f k (y121.take ((l0.length : Int) : Int).toNat)).bind fun t129 => ((ferruleref1_Sum.f k l0).bind fun t130 => (if t129 = t130 then ((crc_More.f k a1 (y121.take ((l0.length : Int) : Int).toNat)).bind fun t135 => ((ferruleref1_More.f k a1 l0).bind fun t136 => (if t135 = t136 then (if (strOfNums l0).size + 1 ≤ 9223372036854775807 then (some ((strOfNums y121).toList == ((strOfNums l0) ++ (⟨#[7]⟩ : ByteArray)).toList)) else (none)) else (some false)))) else (some false)))) else (none)) else (none)) = some r := by rw [if_pos rfl] at H; exact H
        clear H
        have H := H1
        clear H1
        by_cases c7 : 0 ≤ (l0.length : Int)
        · rw [if_pos c7] at H
          have c7b0 := eq_true c7
          have c7b1 : decide (0 ≤ (l0.length : Int)) = true := decide_eq_true c7
          clear c7
          by_cases c8 : (l0.length : Int) ≤ (y121.length : Int)
          · rw [if_pos c8] at H
            have c8b0 := eq_true c8
            have c8b1 : decide ((l0.length : Int) ≤ (y121.length : Int)) = true := decide_eq_true c8
            clear c8
            obtain ⟨y125, hy125⟩ : ∃ y_ : List Int, y_ = (y121.take ((l0.length : Int) : Int).toNat) := ⟨_, rfl⟩
            replace H : ((crc_Sum.f k y125).bind fun t129 => ((ferruleref1_Sum.f k l0).bind fun t130 => (if t129 = t130 then ((crc_More.f k a1 (y121.take ((l0.length : Int) : Int).toNat)).bind fun t135 => ((ferruleref1_More.f k a1 l0).bind fun t136 => (if t135 = t136 then (if (strOfNums l0).size + 1 ≤ 9223372036854775807 then (some ((strOfNums y121).toList == ((strOfNums l0) ++ (⟨#[7]⟩ : ByteArray)).toList)) else (none)) else (some false)))) else (some false)))) = some r := by first | (rw [hy125]; with_reducible exact H) | (have H2_ := (Option.bind_some _ _).symm.trans H; rw [hy125]; with_reducible exact H2_) | (have H2_ := (Option.bind_some _ _).symm.trans H; with_reducible exact H2_) | with_reducible exact H | (rw [hy125]; exact H) | exact H
            have Ny125 := Aside0.mk hy125
            clear hy125
            replace H := Option.bind_eq_some_iff.mp H
            obtain ⟨t129, A90, H⟩ := H
            replace H : ((ferruleref1_Sum.f k l0).bind fun t130 => (if t129 = t130 then ((crc_More.f k a1 (y121.take ((l0.length : Int) : Int).toNat)).bind fun t135 => ((ferruleref1_More.f k a1 l0).bind fun t136 => (if t135 = t136 then (if (strOfNums l0).size + 1 ≤ 9223372036854775807 then (some ((strOfNums y121).toList == ((strOfNums l0) ++ (⟨#[7]⟩ : ByteArray)).toList)) else (none)) else (some false)))) else (some false))) = some r := H
            have A9 := Aside0.mk A90
            clear A90
            replace H := Option.bind_eq_some_iff.mp H
            obtain ⟨t130, A100, H⟩ := H
            replace H : (if t129 = t130 then ((crc_More.f k a1 (y121.take ((l0.length : Int) : Int).toNat)).bind fun t135 => ((ferruleref1_More.f k a1 l0).bind fun t136 => (if t135 = t136 then (if (strOfNums l0).size + 1 ≤ 9223372036854775807 then (some ((strOfNums y121).toList == ((strOfNums l0) ++ (⟨#[7]⟩ : ByteArray)).toList)) else (none)) else (some false)))) else (some false)) = some r := H
            have A10 := Aside0.mk A100
            clear A100
            by_cases c11 : t129 = t130
            · rw [if_pos c11] at H
              have c11b0 : (t129 == t130) = true := beq_iff_eq.mpr c11
              have c11b1 : (t129 != t130) = false := bne_eq_false_iff_eq.mpr c11
              clear c11
              have c12b0 := eq_true (of_decide_eq_true (by first | (with_reducible assumption) | assumption) : 0 ≤ (l0.length : Int))
              have c13b0 := eq_true (of_decide_eq_true (by first | (with_reducible assumption) | assumption) : (l0.length : Int) ≤ (y121.length : Int))
              obtain ⟨y131, hy131⟩ : ∃ y_ : List Int, y_ = (y121.take ((l0.length : Int) : Int).toNat) := ⟨_, rfl⟩
              replace H : ((crc_More.f k a1 y131).bind fun t135 => ((ferruleref1_More.f k a1 l0).bind fun t136 => (if t135 = t136 then (if (strOfNums l0).size + 1 ≤ 9223372036854775807 then (some ((strOfNums y121).toList == ((strOfNums l0) ++ (⟨#[7]⟩ : ByteArray)).toList)) else (none)) else (some false)))) = some r := by first | (rw [hy131]; with_reducible exact H) | (have H2_ := (Option.bind_some _ _).symm.trans H; rw [hy131]; with_reducible exact H2_) | (have H2_ := (Option.bind_some _ _).symm.trans H; with_reducible exact H2_) | with_reducible exact H | (rw [hy131]; exact H) | exact H
              have Ny131 := Aside0.mk hy131
              clear hy131
              replace H := Option.bind_eq_some_iff.mp H
              obtain ⟨t135, A140, H⟩ := H
              replace H : ((ferruleref1_More.f k a1 l0).bind fun t136 => (if t135 = t136 then (if (strOfNums l0).size + 1 ≤ 9223372036854775807 then (some ((strOfNums y121).toList == ((strOfNums l0) ++ (⟨#[7]⟩ : ByteArray)).toList)) else (none)) else (some false))) = some r := H
              have A14 := Aside0.mk A140
              clear A140
              replace H := Option.bind_eq_some_iff.mp H
              obtain ⟨t136, A150, H⟩ := H
              replace H : (if t135 = t136 then (if (strOfNums l0).size + 1 ≤ 9223372036854775807 then (some ((strOfNums y121).toList == ((strOfNums l0) ++ (⟨#[7]⟩ : ByteArray)).toList)) else (none)) else (some false)) = some r := H
              have A15 := Aside0.mk A150
              clear A150
              by_cases c16 : t135 = t136
              · rw [if_pos c16] at H
                have c16b0 : (t135 == t136) = true := beq_iff_eq.mpr c16
                have c16b1 : (t135 != t136) = false := bne_eq_false_iff_eq.mpr c16
                clear c16
                by_cases c17 : (strOfNums l0).size + 1 ≤ 9223372036854775807
                · rw [if_pos c17] at H
                  have c17b0 := eq_true c17
                  have c17b1 : decide ((strOfNums l0).size + 1 ≤ 9223372036854775807) = true := decide_eq_true c17
                  try have c17b2 : (9223372036854775807 < (strOfNums l0).size + 1) = False := eq_false (Nat.not_lt.2 c17)
                  obtain rfl := Option.some.inj H
                  have hcv18 := Kd.C_string (P := Try.prog) (A := A0) (c := c0) Try.underlying25 Try.underlying5 Try.underlying9 HR0.out
                  go_enter Try.func4, Try.ntmps4
                  go_wp2_with (first | ((with_reducible refine gate_dst (N := 8) rfl ?_); (try (refine gate_guard (by rfl) ?_; dsimp only)); refine Kd.Q_bytes _ 5 rfl (N := 8) rfl 9 25 _ rfl (strOfNums l0) rfl Try.underlying9 Try.underlying25 Try.underlying5 (ok := fun _ => True) trivial (Below.refl _ _) (Nat.le_refl _) (of_decide_eq_true (by first | (with_reducible assumption) | assumption)) ?_; intro v119 w19 ho20 hb hg_ hnew_; clear hg_ hnew_; (first | rw [← Ny118.out] at ho20 | (simp only [Int.reduceToNat] at ho20; rw [← Ny118.out] at ho20)); have n0_ := Aside0.mk (Kd.Q_lower ho20 (below_size (by repeat (first | (with_reducible first | exact HB.out | apply below_alloc | apply pw_below_drewN | apply below_drew1) | exact HB.out)))); have n1_ := Aside0.mk (below_step (by repeat (first | (with_reducible first | exact HB.out | apply below_alloc | apply pw_below_drewN | apply below_drew1) | exact HB.out)) hb); clear HB; have HO120 := n0_; have HB := n1_; clear n0_ n1_; clear hb ho20) | ((with_reducible refine gate_builtin (b := .append) (xs := #[.tmp 8, .tmp 9]) rfl ?_); (try (refine gate_guard (by rfl) ?_; dsimp only)); at_builtin; refine Kd.Q_append (Kd.int .u8) (w0 := w) w.heap.size rfl (.tmp 8) (.tmp 9) 25 5 (.int .u8 0) 1 rfl Try.underlying25 info5 rfl (by decide) (by omega) v119 y118 7 [.int .u8 7] (fun _ => True) (fun _ => False) rfl rfl ?aP (fun _ hk => hk.elim) ?aF ?aO ?aB ?aS ?aL ?_; (case aP => exact rfl); (case aB => exact (by repeat (first | (with_reducible first | exact HB.out | apply below_alloc | apply pw_below_drewN | apply below_drew1) | exact HB.out))); (case aF => exact (fun _ _ => trivial)); (case aO => exact (by (with_reducible repeat (first | apply Kd.Q_alloc | apply Kd.Q_drewN | apply Kd.Q_drew)); exact HO120.out)); (case aS => exact (below_size (by repeat (first | (with_reducible first | exact HB.out | apply below_alloc | apply pw_below_drewN | apply below_drew1) | exact HB.out)))); (case aL => have := LMc4.out; omega); intro v122 w21 ho hb hg hat; rw [← Ny121.out] at ho; have n0_ := Aside0.mk (hb); have n1_ := Aside0.mk (ho); clear HB; clear HO120; have HB := n0_; have HO123 := n1_; clear n0_ n1_; clear ho hb hg hat) | ((with_reducible refine gate_callee (f := 8) rfl ?_); refine goesL_ (some 11) rfl rfl Try.func8 (by kernel_rfl) rfl #[] rfl (by (try simp only [List.map_toArray, List.map_cons, List.map_nil]); first | done | rfl | (simp only [List.length_drop, List.length_take]; rfl)) ?_; (with_reducible refine (ferrulelaw1_awake.calls k  true _ A5.out).mono ?_); rintro e w22 ⟨rfl, hb⟩; refine ⟨_, rfl, ?_⟩; have n0_ := Aside0.mk (Kd.Q_below (by (with_reducible repeat (first | apply Kd.Q_alloc | apply Kd.Q_drewN | apply Kd.Q_drew)); exact HO123.out) hb); have n1_ := Aside0.mk (below_step (by repeat (first | (with_reducible first | exact HB.out | apply below_alloc | apply pw_below_drewN | apply below_drew1) | exact HB.out)) hb); clear HO123; clear HB; have HO123 := n0_; have HB := n1_; clear n0_ n1_; (try clear hb); (try clear hb2); (try clear hk); (try clear hi); obtain ⟨Ao24, co24, eo24, _⟩ := Kd.Q_slice HO123.out; subst eo24; have q23 : ((l0.length : Int) : Int) ≤ ((y121.length : Int) : Int) := of_decide_eq_true (by first | (with_reducible assumption) | assumption); obtain ⟨i023, hi023, _, hsz23, _⟩ := info_parts info5; have hroom23 : y121.length ≤ co24 := (Kd.Q_reads' HO123.out).2.1; have hC23 : Kd.C (Kd.int .u8) _ Ao24 y121.length y121 := (Kd.Q_reads' HO123.out).2.2; have hcut23 := cut_to (P := Try.prog) 25 5 .i64 Try.underlying25 hi023 Ao24 y121.length co24 (l0.length : Int) (of_decide_eq_true (by first | (with_reducible assumption) | assumption)) q23 hroom23; have hr23 := Kd.C_take (m := ((l0.length : Int) : Int).toNat) hC23 (by omega); have hy23 : y125.length = ((l0.length : Int) : Int).toNat := (by rw [Ny125.out, List.length_take]; omega); rw [← Ny125.out] at hr23; rw [← hy23] at hcut23; have HR128 := Aside0.mk hr23; have HC128 := Aside0.mk (show y125.length ≤ co24 from by omega); clear hr23 hC23 hroom23 hi023 hsz23; have KY23 := Aside0.mk hy23; clear hy23; have KL23 := Aside0.mk (show ((l0.length : Int) : Int).toNat ≤ y121.length from by omega); replace q23 := eq_true q23) | (go_at_call 9; (with_reducible refine (crc_Sum.calls k _ _ y125 t129 _ ?side1 ?side2 A9.out).mono ?_); (case side1 => repeat (first | exact (by repeat (first | (with_reducible exact HR128.out) | (with_reducible refine Kd.C_alloc ?_ _) | (with_reducible refine Kd.C_drewN ?_ _) | (with_reducible refine Kd.C_drew ?_) | exact HR128.out)) | (with_reducible refine Kd.C_alloc ?_ _) | (with_reducible refine Kd.C_drewN ?_ _) | (with_reducible refine Kd.C_drew ?_))); (case side2 => exact HC128.out); rintro e w' ⟨rfl, ⟨nd, rfl⟩⟩) | (go_at_call 10; (with_reducible refine (ferruleref1_Sum.calls k _ _ l0 t130 _ ?side1 ?side2 A10.out).mono ?_); (case side1 => repeat (first | exact (Kd.C_below HR0.out (by repeat (first | (with_reducible first | exact HB.out | apply below_alloc | apply pw_below_drewN | apply below_drew1) | exact HB.out))) | (with_reducible refine Kd.C_alloc ?_ _) | (with_reducible refine Kd.C_drewN ?_ _) | (with_reducible refine Kd.C_drew ?_))); (case side2 => exact HC0.out); rintro e w' ⟨rfl, ⟨nd, rfl⟩⟩; (try clear hcut23); have q25 : ((l0.length : Int) : Int) ≤ ((y121.length : Int) : Int) := of_decide_eq_true (by first | (with_reducible assumption) | assumption); obtain ⟨i025, hi025, _, hsz25, _⟩ := info_parts info5; have hroom25 : y121.length ≤ co24 := (Kd.Q_reads' HO123.out).2.1; have hC25 : Kd.C (Kd.int .u8) _ Ao24 y121.length y121 := (Kd.Q_reads' HO123.out).2.2; have hcut25 := cut_to (P := Try.prog) 25 5 .i64 Try.underlying25 hi025 Ao24 y121.length co24 (l0.length : Int) (of_decide_eq_true (by first | (with_reducible assumption) | assumption)) q25 hroom25; have hr25 := Kd.C_take (m := ((l0.length : Int) : Int).toNat) hC25 (by omega); have hy25 : y131.length = ((l0.length : Int) : Int).toNat := (by rw [Ny131.out, List.length_take]; omega); rw [← Ny131.out] at hr25; rw [← hy25] at hcut25; have HR134 := Aside0.mk hr25; have HC134 := Aside0.mk (show y131.length ≤ co24 from by omega); clear hr25 hC25 hroom25 hi025 hsz25; have KY25 := Aside0.mk hy25; clear hy25; have KL25 := Aside0.mk (show ((l0.length : Int) : Int).toNat ≤ y121.length from by omega); replace q25 := eq_true q25) | (go_at_call 11; (with_reducible refine (crc_More.calls k a1 _ _ y131 t135 _ ?side1 ?side2 A14.out).mono ?_); (case side1 => repeat (first | exact (by repeat (first | (with_reducible exact HR134.out) | (with_reducible refine Kd.C_alloc ?_ _) | (with_reducible refine Kd.C_drewN ?_ _) | (with_reducible refine Kd.C_drew ?_) | exact HR134.out)) | (with_reducible refine Kd.C_alloc ?_ _) | (with_reducible refine Kd.C_drewN ?_ _) | (with_reducible refine Kd.C_drew ?_))); (case side2 => exact HC134.out); rintro e w' ⟨rfl, ⟨nd, rfl⟩⟩) | (go_at_call 12; (with_reducible refine (ferruleref1_More.calls k a1 _ _ l0 t136 _ ?side1 ?side2 A15.out).mono ?_); (case side1 => repeat (first | exact (Kd.C_below HR0.out (by repeat (first | (with_reducible first | exact HB.out | apply below_alloc | apply pw_below_drewN | apply below_drew1) | exact HB.out))) | (with_reducible refine Kd.C_alloc ?_ _) | (with_reducible refine Kd.C_drewN ?_ _) | (with_reducible refine Kd.C_drew ?_))); (case side2 => exact HC0.out); rintro e w' ⟨rfl, ⟨nd, rfl⟩⟩; have hcv26 := fun c_ => Kd.C_string (P := Try.prog) (A := _) (c := c_) Try.underlying25 Try.underlying5 Try.underlying9 (Kd.Q_reads' HO123.out).2.2; have hcv26N := fun c_ m_ => Kd.C_string (P := Try.prog) (A := _) (c := c_) Try.underlying25 Try.underlying5 Try.underlying9 (Kd.C_drewN (Kd.Q_reads' HO123.out).2.2 m_); have hcv27 := Kd.C_string (P := Try.prog) (A := A0) (c := c0) Try.underlying25 Try.underlying5 Try.underlying9 (Kd.C_below HR0.out HB.out); have hcv27N := fun m_ => Kd.C_string (P := Try.prog) (A := A0) (c := c0) Try.underlying25 Try.underlying5 Try.underlying9 (Kd.C_drewN (Kd.C_below HR0.out HB.out) m_)))
                  go_ret
                  exact ⟨by first | rfl | (simp [errW_none, errW_some] <;> rfl) | (simp [*, errW_none, errW_some] <;> rfl), by repeat (first | (with_reducible first | exact HB.out | apply below_alloc | apply pw_below_drewN | apply below_drew1) | exact HB.out)⟩
                · rw [if_neg c17] at H
                  exact absurd H (by simp)
              · rw [if_neg c16] at H
                have c16b0 : (t135 == t136) = false := beq_eq_false_iff_ne.mpr c16
                have c16b1 : (t135 != t136) = true := bne_iff_ne.mpr c16
                obtain rfl := Option.some.inj H
                have hcv28 := Kd.C_string (P := Try.prog) (A := A0) (c := c0) Try.underlying25 Try.underlying5 Try.underlying9 HR0.out
                go_enter Try.func4, Try.ntmps4
                go_wp2_with (first | ((with_reducible refine gate_dst (N := 8) rfl ?_); (try (refine gate_guard (by rfl) ?_; dsimp only)); refine Kd.Q_bytes _ 5 rfl (N := 8) rfl 9 25 _ rfl (strOfNums l0) rfl Try.underlying9 Try.underlying25 Try.underlying5 (ok := fun _ => True) trivial (Below.refl _ _) (Nat.le_refl _) (of_decide_eq_true (by first | (with_reducible assumption) | assumption)) ?_; intro v119 w29 ho30 hb hg_ hnew_; clear hg_ hnew_; (first | rw [← Ny118.out] at ho30 | (simp only [Int.reduceToNat] at ho30; rw [← Ny118.out] at ho30)); have n0_ := Aside0.mk (Kd.Q_lower ho30 (below_size (by repeat (first | (with_reducible first | exact HB.out | apply below_alloc | apply pw_below_drewN | apply below_drew1) | exact HB.out)))); have n1_ := Aside0.mk (below_step (by repeat (first | (with_reducible first | exact HB.out | apply below_alloc | apply pw_below_drewN | apply below_drew1) | exact HB.out)) hb); clear HB; have HO120 := n0_; have HB := n1_; clear n0_ n1_; clear hb ho30) | ((with_reducible refine gate_builtin (b := .append) (xs := #[.tmp 8, .tmp 9]) rfl ?_); (try (refine gate_guard (by rfl) ?_; dsimp only)); at_builtin; refine Kd.Q_append (Kd.int .u8) (w0 := w) w.heap.size rfl (.tmp 8) (.tmp 9) 25 5 (.int .u8 0) 1 rfl Try.underlying25 info5 rfl (by decide) (by omega) v119 y118 7 [.int .u8 7] (fun _ => True) (fun _ => False) rfl rfl ?aP (fun _ hk => hk.elim) ?aF ?aO ?aB ?aS ?aL ?_; (case aP => exact rfl); (case aB => exact (by repeat (first | (with_reducible first | exact HB.out | apply below_alloc | apply pw_below_drewN | apply below_drew1) | exact HB.out))); (case aF => exact (fun _ _ => trivial)); (case aO => exact (by (with_reducible repeat (first | apply Kd.Q_alloc | apply Kd.Q_drewN | apply Kd.Q_drew)); exact HO120.out)); (case aS => exact (below_size (by repeat (first | (with_reducible first | exact HB.out | apply below_alloc | apply pw_below_drewN | apply below_drew1) | exact HB.out)))); (case aL => have := LMc4.out; omega); intro v122 w31 ho hb hg hat; rw [← Ny121.out] at ho; have n0_ := Aside0.mk (hb); have n1_ := Aside0.mk (ho); clear HB; clear HO120; have HB := n0_; have HO123 := n1_; clear n0_ n1_; clear ho hb hg hat) | ((with_reducible refine gate_callee (f := 8) rfl ?_); refine goesL_ (some 11) rfl rfl Try.func8 (by kernel_rfl) rfl #[] rfl (by (try simp only [List.map_toArray, List.map_cons, List.map_nil]); first | done | rfl | (simp only [List.length_drop, List.length_take]; rfl)) ?_; (with_reducible refine (ferrulelaw1_awake.calls k  true _ A5.out).mono ?_); rintro e w32 ⟨rfl, hb⟩; refine ⟨_, rfl, ?_⟩; have n0_ := Aside0.mk (Kd.Q_below (by (with_reducible repeat (first | apply Kd.Q_alloc | apply Kd.Q_drewN | apply Kd.Q_drew)); exact HO123.out) hb); have n1_ := Aside0.mk (below_step (by repeat (first | (with_reducible first | exact HB.out | apply below_alloc | apply pw_below_drewN | apply below_drew1) | exact HB.out)) hb); clear HO123; clear HB; have HO123 := n0_; have HB := n1_; clear n0_ n1_; (try clear hb); (try clear hb2); (try clear hk); (try clear hi); obtain ⟨Ao34, co34, eo34, _⟩ := Kd.Q_slice HO123.out; subst eo34; have q33 : ((l0.length : Int) : Int) ≤ ((y121.length : Int) : Int) := of_decide_eq_true (by first | (with_reducible assumption) | assumption); obtain ⟨i033, hi033, _, hsz33, _⟩ := info_parts info5; have hroom33 : y121.length ≤ co34 := (Kd.Q_reads' HO123.out).2.1; have hC33 : Kd.C (Kd.int .u8) _ Ao34 y121.length y121 := (Kd.Q_reads' HO123.out).2.2; have hcut33 := cut_to (P := Try.prog) 25 5 .i64 Try.underlying25 hi033 Ao34 y121.length co34 (l0.length : Int) (of_decide_eq_true (by first | (with_reducible assumption) | assumption)) q33 hroom33; have hr33 := Kd.C_take (m := ((l0.length : Int) : Int).toNat) hC33 (by omega); have hy33 : y125.length = ((l0.length : Int) : Int).toNat := (by rw [Ny125.out, List.length_take]; omega); rw [← Ny125.out] at hr33; rw [← hy33] at hcut33; have HR128 := Aside0.mk hr33; have HC128 := Aside0.mk (show y125.length ≤ co34 from by omega); clear hr33 hC33 hroom33 hi033 hsz33; have KY33 := Aside0.mk hy33; clear hy33; have KL33 := Aside0.mk (show ((l0.length : Int) : Int).toNat ≤ y121.length from by omega); replace q33 := eq_true q33) | (go_at_call 9; (with_reducible refine (crc_Sum.calls k _ _ y125 t129 _ ?side1 ?side2 A9.out).mono ?_); (case side1 => repeat (first | exact (by repeat (first | (with_reducible exact HR128.out) | (with_reducible refine Kd.C_alloc ?_ _) | (with_reducible refine Kd.C_drewN ?_ _) | (with_reducible refine Kd.C_drew ?_) | exact HR128.out)) | (with_reducible refine Kd.C_alloc ?_ _) | (with_reducible refine Kd.C_drewN ?_ _) | (with_reducible refine Kd.C_drew ?_))); (case side2 => exact HC128.out); rintro e w' ⟨rfl, ⟨nd, rfl⟩⟩) | (go_at_call 10; (with_reducible refine (ferruleref1_Sum.calls k _ _ l0 t130 _ ?side1 ?side2 A10.out).mono ?_); (case side1 => repeat (first | exact (Kd.C_below HR0.out (by repeat (first | (with_reducible first | exact HB.out | apply below_alloc | apply pw_below_drewN | apply below_drew1) | exact HB.out))) | (with_reducible refine Kd.C_alloc ?_ _) | (with_reducible refine Kd.C_drewN ?_ _) | (with_reducible refine Kd.C_drew ?_))); (case side2 => exact HC0.out); rintro e w' ⟨rfl, ⟨nd, rfl⟩⟩; (try clear hcut33); have q35 : ((l0.length : Int) : Int) ≤ ((y121.length : Int) : Int) := of_decide_eq_true (by first | (with_reducible assumption) | assumption); obtain ⟨i035, hi035, _, hsz35, _⟩ := info_parts info5; have hroom35 : y121.length ≤ co34 := (Kd.Q_reads' HO123.out).2.1; have hC35 : Kd.C (Kd.int .u8) _ Ao34 y121.length y121 := (Kd.Q_reads' HO123.out).2.2; have hcut35 := cut_to (P := Try.prog) 25 5 .i64 Try.underlying25 hi035 Ao34 y121.length co34 (l0.length : Int) (of_decide_eq_true (by first | (with_reducible assumption) | assumption)) q35 hroom35; have hr35 := Kd.C_take (m := ((l0.length : Int) : Int).toNat) hC35 (by omega); have hy35 : y131.length = ((l0.length : Int) : Int).toNat := (by rw [Ny131.out, List.length_take]; omega); rw [← Ny131.out] at hr35; rw [← hy35] at hcut35; have HR134 := Aside0.mk hr35; have HC134 := Aside0.mk (show y131.length ≤ co34 from by omega); clear hr35 hC35 hroom35 hi035 hsz35; have KY35 := Aside0.mk hy35; clear hy35; have KL35 := Aside0.mk (show ((l0.length : Int) : Int).toNat ≤ y121.length from by omega); replace q35 := eq_true q35) | (go_at_call 11; (with_reducible refine (crc_More.calls k a1 _ _ y131 t135 _ ?side1 ?side2 A14.out).mono ?_); (case side1 => repeat (first | exact (by repeat (first | (with_reducible exact HR134.out) | (with_reducible refine Kd.C_alloc ?_ _) | (with_reducible refine Kd.C_drewN ?_ _) | (with_reducible refine Kd.C_drew ?_) | exact HR134.out)) | (with_reducible refine Kd.C_alloc ?_ _) | (with_reducible refine Kd.C_drewN ?_ _) | (with_reducible refine Kd.C_drew ?_))); (case side2 => exact HC134.out); rintro e w' ⟨rfl, ⟨nd, rfl⟩⟩) | (go_at_call 12; (with_reducible refine (ferruleref1_More.calls k a1 _ _ l0 t136 _ ?side1 ?side2 A15.out).mono ?_); (case side1 => repeat (first | exact (Kd.C_below HR0.out (by repeat (first | (with_reducible first | exact HB.out | apply below_alloc | apply pw_below_drewN | apply below_drew1) | exact HB.out))) | (with_reducible refine Kd.C_alloc ?_ _) | (with_reducible refine Kd.C_drewN ?_ _) | (with_reducible refine Kd.C_drew ?_))); (case side2 => exact HC0.out); rintro e w' ⟨rfl, ⟨nd, rfl⟩⟩))
                go_ret
                exact ⟨by first | rfl | (simp [errW_none, errW_some] <;> rfl) | (simp [*, errW_none, errW_some] <;> rfl), by repeat (first | (with_reducible first | exact HB.out | apply below_alloc | apply pw_below_drewN | apply below_drew1) | exact HB.out)⟩
            · rw [if_neg c11] at H
              have c11b0 : (t129 == t130) = false := beq_eq_false_iff_ne.mpr c11
              have c11b1 : (t129 != t130) = true := bne_iff_ne.mpr c11
              obtain rfl := Option.some.inj H
              have hcv36 := Kd.C_string (P := Try.prog) (A := A0) (c := c0) Try.underlying25 Try.underlying5 Try.underlying9 HR0.out
              go_enter Try.func4, Try.ntmps4
              go_wp2_with (first | ((with_reducible refine gate_dst (N := 8) rfl ?_); (try (refine gate_guard (by rfl) ?_; dsimp only)); refine Kd.Q_bytes _ 5 rfl (N := 8) rfl 9 25 _ rfl (strOfNums l0) rfl Try.underlying9 Try.underlying25 Try.underlying5 (ok := fun _ => True) trivial (Below.refl _ _) (Nat.le_refl _) (of_decide_eq_true (by first | (with_reducible assumption) | assumption)) ?_; intro v119 w37 ho38 hb hg_ hnew_; clear hg_ hnew_; (first | rw [← Ny118.out] at ho38 | (simp only [Int.reduceToNat] at ho38; rw [← Ny118.out] at ho38)); have n0_ := Aside0.mk (Kd.Q_lower ho38 (below_size (by repeat (first | (with_reducible first | exact HB.out | apply below_alloc | apply pw_below_drewN | apply below_drew1) | exact HB.out)))); have n1_ := Aside0.mk (below_step (by repeat (first | (with_reducible first | exact HB.out | apply below_alloc | apply pw_below_drewN | apply below_drew1) | exact HB.out)) hb); clear HB; have HO120 := n0_; have HB := n1_; clear n0_ n1_; clear hb ho38) | ((with_reducible refine gate_builtin (b := .append) (xs := #[.tmp 8, .tmp 9]) rfl ?_); (try (refine gate_guard (by rfl) ?_; dsimp only)); at_builtin; refine Kd.Q_append (Kd.int .u8) (w0 := w) w.heap.size rfl (.tmp 8) (.tmp 9) 25 5 (.int .u8 0) 1 rfl Try.underlying25 info5 rfl (by decide) (by omega) v119 y118 7 [.int .u8 7] (fun _ => True) (fun _ => False) rfl rfl ?aP (fun _ hk => hk.elim) ?aF ?aO ?aB ?aS ?aL ?_; (case aP => exact rfl); (case aB => exact (by repeat (first | (with_reducible first | exact HB.out | apply below_alloc | apply pw_below_drewN | apply below_drew1) | exact HB.out))); (case aF => exact (fun _ _ => trivial)); (case aO => exact (by (with_reducible repeat (first | apply Kd.Q_alloc | apply Kd.Q_drewN | apply Kd.Q_drew)); exact HO120.out)); (case aS => exact (below_size (by repeat (first | (with_reducible first | exact HB.out | apply below_alloc | apply pw_below_drewN | apply below_drew1) | exact HB.out)))); (case aL => have := LMc4.out; omega); intro v122 w39 ho hb hg hat; rw [← Ny121.out] at ho; have n0_ := Aside0.mk (hb); have n1_ := Aside0.mk (ho); clear HB; clear HO120; have HB := n0_; have HO123 := n1_; clear n0_ n1_; clear ho hb hg hat) | ((with_reducible refine gate_callee (f := 8) rfl ?_); refine goesL_ (some 11) rfl rfl Try.func8 (by kernel_rfl) rfl #[] rfl (by (try simp only [List.map_toArray, List.map_cons, List.map_nil]); first | done | rfl | (simp only [List.length_drop, List.length_take]; rfl)) ?_; (with_reducible refine (ferrulelaw1_awake.calls k  true _ A5.out).mono ?_); rintro e w40 ⟨rfl, hb⟩; refine ⟨_, rfl, ?_⟩; have n0_ := Aside0.mk (Kd.Q_below (by (with_reducible repeat (first | apply Kd.Q_alloc | apply Kd.Q_drewN | apply Kd.Q_drew)); exact HO123.out) hb); have n1_ := Aside0.mk (below_step (by repeat (first | (with_reducible first | exact HB.out | apply below_alloc | apply pw_below_drewN | apply below_drew1) | exact HB.out)) hb); clear HO123; clear HB; have HO123 := n0_; have HB := n1_; clear n0_ n1_; (try clear hb); (try clear hb2); (try clear hk); (try clear hi); obtain ⟨Ao42, co42, eo42, _⟩ := Kd.Q_slice HO123.out; subst eo42; have q41 : ((l0.length : Int) : Int) ≤ ((y121.length : Int) : Int) := of_decide_eq_true (by first | (with_reducible assumption) | assumption); obtain ⟨i041, hi041, _, hsz41, _⟩ := info_parts info5; have hroom41 : y121.length ≤ co42 := (Kd.Q_reads' HO123.out).2.1; have hC41 : Kd.C (Kd.int .u8) _ Ao42 y121.length y121 := (Kd.Q_reads' HO123.out).2.2; have hcut41 := cut_to (P := Try.prog) 25 5 .i64 Try.underlying25 hi041 Ao42 y121.length co42 (l0.length : Int) (of_decide_eq_true (by first | (with_reducible assumption) | assumption)) q41 hroom41; have hr41 := Kd.C_take (m := ((l0.length : Int) : Int).toNat) hC41 (by omega); have hy41 : y125.length = ((l0.length : Int) : Int).toNat := (by rw [Ny125.out, List.length_take]; omega); rw [← Ny125.out] at hr41; rw [← hy41] at hcut41; have HR128 := Aside0.mk hr41; have HC128 := Aside0.mk (show y125.length ≤ co42 from by omega); clear hr41 hC41 hroom41 hi041 hsz41; have KY41 := Aside0.mk hy41; clear hy41; have KL41 := Aside0.mk (show ((l0.length : Int) : Int).toNat ≤ y121.length from by omega); replace q41 := eq_true q41) | (go_at_call 9; (with_reducible refine (crc_Sum.calls k _ _ y125 t129 _ ?side1 ?side2 A9.out).mono ?_); (case side1 => repeat (first | exact (by repeat (first | (with_reducible exact HR128.out) | (with_reducible refine Kd.C_alloc ?_ _) | (with_reducible refine Kd.C_drewN ?_ _) | (with_reducible refine Kd.C_drew ?_) | exact HR128.out)) | (with_reducible refine Kd.C_alloc ?_ _) | (with_reducible refine Kd.C_drewN ?_ _) | (with_reducible refine Kd.C_drew ?_))); (case side2 => exact HC128.out); rintro e w' ⟨rfl, ⟨nd, rfl⟩⟩) | (go_at_call 10; (with_reducible refine (ferruleref1_Sum.calls k _ _ l0 t130 _ ?side1 ?side2 A10.out).mono ?_); (case side1 => repeat (first | exact (Kd.C_below HR0.out (by repeat (first | (with_reducible first | exact HB.out | apply below_alloc | apply pw_below_drewN | apply below_drew1) | exact HB.out))) | (with_reducible refine Kd.C_alloc ?_ _) | (with_reducible refine Kd.C_drewN ?_ _) | (with_reducible refine Kd.C_drew ?_))); (case side2 => exact HC0.out); rintro e w' ⟨rfl, ⟨nd, rfl⟩⟩))
              go_ret
              exact ⟨by first | rfl | (simp [errW_none, errW_some] <;> rfl) | (simp [*, errW_none, errW_some] <;> rfl), by repeat (first | (with_reducible first | exact HB.out | apply below_alloc | apply pw_below_drewN | apply below_drew1) | exact HB.out)⟩
          · rw [if_neg c8] at H
            exact absurd H (by simp)
        · rw [if_neg c7] at H
          exact absurd H (by simp)
      · replace c6 := Bool.eq_false_iff.mpr c6
        subst c6
        have H1 : (some false) = some r := by rw [if_neg (show ¬ (false = true) by decide)] at H; exact H
        clear H
        have H := H1
        clear H1
        obtain rfl := Option.some.inj H
        have hcv43 := Kd.C_string (P := Try.prog) (A := A0) (c := c0) Try.underlying25 Try.underlying5 Try.underlying9 HR0.out
        go_enter Try.func4, Try.ntmps4
        go_wp2_with (first | ((with_reducible refine gate_dst (N := 8) rfl ?_); (try (refine gate_guard (by rfl) ?_; dsimp only)); refine Kd.Q_bytes _ 5 rfl (N := 8) rfl 9 25 _ rfl (strOfNums l0) rfl Try.underlying9 Try.underlying25 Try.underlying5 (ok := fun _ => True) trivial (Below.refl _ _) (Nat.le_refl _) (of_decide_eq_true (by first | (with_reducible assumption) | assumption)) ?_; intro v119 w44 ho45 hb hg_ hnew_; clear hg_ hnew_; (first | rw [← Ny118.out] at ho45 | (simp only [Int.reduceToNat] at ho45; rw [← Ny118.out] at ho45)); have n0_ := Aside0.mk (Kd.Q_lower ho45 (below_size (by repeat (first | (with_reducible first | exact HB.out | apply below_alloc | apply pw_below_drewN | apply below_drew1) | exact HB.out)))); have n1_ := Aside0.mk (below_step (by repeat (first | (with_reducible first | exact HB.out | apply below_alloc | apply pw_below_drewN | apply below_drew1) | exact HB.out)) hb); clear HB; have HO120 := n0_; have HB := n1_; clear n0_ n1_; clear hb ho45) | ((with_reducible refine gate_builtin (b := .append) (xs := #[.tmp 8, .tmp 9]) rfl ?_); (try (refine gate_guard (by rfl) ?_; dsimp only)); at_builtin; refine Kd.Q_append (Kd.int .u8) (w0 := w) w.heap.size rfl (.tmp 8) (.tmp 9) 25 5 (.int .u8 0) 1 rfl Try.underlying25 info5 rfl (by decide) (by omega) v119 y118 7 [.int .u8 7] (fun _ => True) (fun _ => False) rfl rfl ?aP (fun _ hk => hk.elim) ?aF ?aO ?aB ?aS ?aL ?_; (case aP => exact rfl); (case aB => exact (by repeat (first | (with_reducible first | exact HB.out | apply below_alloc | apply pw_below_drewN | apply below_drew1) | exact HB.out))); (case aF => exact (fun _ _ => trivial)); (case aO => exact (by (with_reducible repeat (first | apply Kd.Q_alloc | apply Kd.Q_drewN | apply Kd.Q_drew)); exact HO120.out)); (case aS => exact (below_size (by repeat (first | (with_reducible first | exact HB.out | apply below_alloc | apply pw_below_drewN | apply below_drew1) | exact HB.out)))); (case aL => have := LMc4.out; omega); intro v122 w46 ho hb hg hat; rw [← Ny121.out] at ho; have n0_ := Aside0.mk (hb); have n1_ := Aside0.mk (ho); clear HB; clear HO120; have HB := n0_; have HO123 := n1_; clear n0_ n1_; clear ho hb hg hat) | ((with_reducible refine gate_callee (f := 8) rfl ?_); refine goesL_ (some 11) rfl rfl Try.func8 (by kernel_rfl) rfl #[] rfl (by (try simp only [List.map_toArray, List.map_cons, List.map_nil]); first | done | rfl | (simp only [List.length_drop, List.length_take]; rfl)) ?_; (with_reducible refine (ferrulelaw1_awake.calls k  false _ A5.out).mono ?_); rintro e w47 ⟨rfl, hb⟩; refine ⟨_, rfl, ?_⟩; have n0_ := Aside0.mk (Kd.Q_below (by (with_reducible repeat (first | apply Kd.Q_alloc | apply Kd.Q_drewN | apply Kd.Q_drew)); exact HO123.out) hb); have n1_ := Aside0.mk (below_step (by repeat (first | (with_reducible first | exact HB.out | apply below_alloc | apply pw_below_drewN | apply below_drew1) | exact HB.out)) hb); clear HO123; clear HB; have HO123 := n0_; have HB := n1_; clear n0_ n1_; (try clear hb); (try clear hb2); (try clear hk); (try clear hi)))
        go_ret
        exact ⟨by first | rfl | (simp [errW_none, errW_some] <;> rfl) | (simp [*, errW_none, errW_some] <;> rfl), by repeat (first | (with_reducible first | exact HB.out | apply below_alloc | apply pw_below_drewN | apply below_drew1) | exact HB.out)⟩
    · rw [if_neg c4] at H
      exact absurd H (by simp)
  · rw [if_neg c3] at H
    exact absurd H (by simp)

/-- THE ONE PURE STATEMENT of ferrulelaw1_CrcSums: yours. -/
def ferrulelaw1_CrcSums.Pure : Prop := ∀ (l0 : List Int) (a1 : Int), l0.length ≤ maxLen → l0.length * 1 ≤ 140737488351232 → (∀ x ∈ l0, (Lit.int .u8 x).wf = true) → (Lit.int .u32 a1).wf = true → ∃ k, ferrulelaw1_CrcSums.f k l0 a1 = some true
theorem ferrulelaw1_CrcSums.walk (P : ferrulelaw1_CrcSums.Pure) (a0 : Option Addr) (len0 cap0 : Nat) (z0 : List Int) (a1 : Int) (w : World) (w0 : (a0 = none ∧ len0 = 0 ∧ cap0 = 0 ∧ z0 = []) ∨ ∃ x, a0 = some x ∧ len0 ≤ cap0 ∧ cap0 ≤ maxLen ∧ z0.length = cap0 ∧ (∀ i, i < z0.length → w.cell? (x.add i) = some (.int .u8 (z0.getD i 0))) ∧ ∀ n ∈ z0, (Lit.int .u8 n).wf = true) (y0 : len0 * 1 ≤ 140737488351232) (w1 : (Lit.int .u32 a1).wf = true) :
    Calls Try.prog 4 #[.slice a0 len0 cap0, .int .u32 a1] w fun e w' => e = .returned (.bool true) ∧ Below w.heap.size w w' := by
  obtain ⟨l0, rfl, hr0, hm0, hw0, hc0⟩ := ReadsInt.ofRowC w0
  obtain ⟨k, h⟩ := P l0 a1 hm0 y0 hw0 w1
  refine (ferrulelaw1_CrcSums.calls k _ _ l0 a1 true w (Kd.C_of_reads (d := (0 : Int)) (h1 := fun _ => rfl) hr0) hc0 h).mono ?_
  rintro e w' ⟨rfl, hd⟩
  exact ⟨rfl, hd⟩

end Go.Proofs.Ytfbbphpgiblhlaa.PCrcSums
