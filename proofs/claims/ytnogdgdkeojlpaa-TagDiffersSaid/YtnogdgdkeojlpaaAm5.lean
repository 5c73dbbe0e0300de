/- The abstract machine, part 5: calls and loops in a memory told by a list, rows of cells, bits. No conditions beyond those of each theorem. -/
import Derived.Test.YtnogdgdkeojlpaaAm4
import Derived.WideShapes
import Derived.SizedLaws
import Derived.ChangeShapes
import Derived.ChangeAt
import Derived.Deep.Slices
set_option linter.unusedSimpArgs false
set_option linter.unusedVariables false
namespace Go.Proofs.Ytnogdgdkeojlpaa.Am
open Go.RowKit (Below)

section
variable {P : Program} {tb : Tb P} {cf : CF} {n N : Nat} {k : List Fm} {c : Code} {S : List (Nat × V)} {h h1 : LH} {Q : Ex → T V → LH → Prop} {K : List Nat} {i d : Nat} {v : V}

theorem WD.p (hi : Nat.blt i (kops c).toList.length = true) (hd : (kop c i).dst = some d) (hf : fitS n (kops c) (kop c i) S = true) (hw : wantS (kops c) (kop c i) S = true)
    (hs : evP tb (evRS ((kop c i).looksAt (kops c)) S) (kop c i).op = some v) (w : WD tb cf n N c (i + 1) ((d, v) :: S) h k K Q) : WD tb cf n N c i S h k (0 :: K) Q := WD.p' hi hd hf hw hs w
theorem WD.pW {kd : IntKind} {z : Int} (hi : Nat.blt i (kops c).toList.length = true) (hd : (kop c i).dst = some d) (hf : fitS n (kops c) (kop c i) S = true) (hw : wantS (kops c) (kop c i) S = true)
    (hs : evP tb (evRS ((kop c i).looksAt (kops c)) S) (kop c i).op = some (.i kd (wr kd z))) (h0 : lo kd ≤ z) (h2 : z ≤ Am.hi kd) (w : WD tb cf n N c (i + 1) ((d, .i kd z) :: S) h k K Q) : WD tb cf n N c i S h k (0 :: K) Q := by
  rw [wr_id h0 h2] at hs; exact WD.p' hi hd hf hw hs w
theorem WD.pP {l o o' : Nat} (hi : Nat.blt i (kops c).toList.length = true) (hd : (kop c i).dst = some d) (hf : fitS n (kops c) (kop c i) S = true) (hw : wantS (kops c) (kop c i) S = true)
    (hs : evP tb (evRS ((kop c i).looksAt (kops c)) S) (kop c i).op = some (.p (some (l, o)))) (ho : o = o') (w : WD tb cf n N c (i + 1) ((d, .p (some (l, o'))) :: S) h k K Q) : WD tb cf n N c i S h k (0 :: K) Q := by
  subst ho; exact WD.p' hi hd hf hw hs w
theorem WD.pB {x : Bool} (q : Bool) (hi : Nat.blt i (kops c).toList.length = true) (hd : (kop c i).dst = some d) (hf : fitS n (kops c) (kop c i) S = true) (hw : wantS (kops c) (kop c i) S = true)
    (hs : evP tb (evRS ((kop c i).looksAt (kops c)) S) (kop c i).op = some (.b x)) (hx : x = q) (w : WD tb cf n N c (i + 1) ((d, .b q) :: S) h k K Q) : WD tb cf n N c i S h k (0 :: K) Q := by
  subst hx; exact WD.p' hi hd hf hw hs w
theorem WD.r (hi : Nat.blt i (kops c).toList.length = true) (hd : (kop c i).dst = some d) (hf : fitS n (kops c) (kop c i) S = true) (hw : wantS (kops c) (kop c i) S = true)
    (hs : evQ tb cf (evRS ((kop c i).looksAt (kops c)) S) h (kop c i).op = some v) (w : WD tb cf n N c (i + 1) ((d, v) :: S) h k K Q) : WD tb cf n N c i S h k (1 :: K) Q := WD.r' hi hd hf hw hs w
theorem WD.e (hi : Nat.blt i (kops c).toList.length = true) (hd : (kop c i).dst = some d) (hf : fitS n (kops c) (kop c i) S = true) (hw : wantS (kops c) (kop c i) S = true)
    (hq : evQ tb cf (evRS ((kop c i).looksAt (kops c)) S) h (kop c i).op = none) (hs : evE tb cf (evRS ((kop c i).looksAt (kops c)) S) h (kop c i).op = some (v, h1))
    (w : WD tb cf n N c (i + 1) ((d, v) :: S) h1 k K Q) : WD tb cf n N c i S h k (2 :: K) Q := WD.e' hi hd hf hw hq hs w
theorem WD.e0 (hi : Nat.blt i (kops c).toList.length = true) (hd : (kop c i).dst = none) (hf : fitS n (kops c) (kop c i) S = true) (hw : wantS (kops c) (kop c i) S = true)
    (hq : evQ tb cf (evRS ((kop c i).looksAt (kops c)) S) h (kop c i).op = none) (hs : evE tb cf (evRS ((kop c i).looksAt (kops c)) S) h (kop c i).op = some (v, h1))
    (w : WD tb cf n N c (i + 1) S h1 k K Q) : WD tb cf n N c i S h k (2 :: K) Q := WD.e' hi hd hf hw hq hs w
theorem WD.no (hi : Nat.blt i (kops c).toList.length = true) (hd : (kop c i).dst = some d) (hf : fitS n (kops c) (kop c i) S = true) (hw : wantS (kops c) (kop c i) S = false)
    (w : WD tb cf n N c (i + 1) ((d, .tup []) :: S) h k K Q) : WD tb cf n N c i S h k (0 :: K) Q := WD.no' hi hd hf hw w
theorem WD.no0 (hi : Nat.blt i (kops c).toList.length = true) (hd : (kop c i).dst = none) (hf : fitS n (kops c) (kop c i) S = true) (hw : wantS (kops c) (kop c i) S = false)
    (w : WD tb cf n N c (i + 1) S h k K Q) : WD tb cf n N c i S h k (0 :: K) Q := WD.no' hi hd hf hw w
theorem WD.no1 (hi : Nat.blt i (kops c).toList.length = true) (hd : (kop c i).dst = some d) (hf : fitS n (kops c) (kop c i) S = true) (hw : wantS (kops c) (kop c i) S = false)
    (w : WD tb cf n N c (i + 1) ((d, .tup []) :: S) h k K Q) : WD tb cf n N c i S h k (1 :: K) Q := WD.no1' hi hd hf hw w
/-- A struct, its cells worked out. -/
theorem WD.pA {l l' : List V} (hi : Nat.blt i (kops c).toList.length = true) (hd : (kop c i).dst = some d) (hf : fitS n (kops c) (kop c i) S = true) (hw : wantS (kops c) (kop c i) S = true)
    (hs : evP tb (evRS ((kop c i).looksAt (kops c)) S) (kop c i).op = some (.agg l)) (ho : l = l') (w : WD tb cf n N c (i + 1) ((d, .agg l') :: S) h k K Q) : WD tb cf n N c i S h k (0 :: K) Q := by
  subst ho; exact WD.p' hi hd hf hw hs w
theorem WS.poA {l l' : List V} (hi : Nat.blt i (kops c).toList.length = true) (hd : (kop c i).dst = some d) (hf : fitS n (kops c) (kop c i) S = true) (hw : wantS (kops c) (kop c i) S = true)
    (hs : step tb noCalls (evS S) h (kop c i).op = some (.agg l, h1)) (ho : l = l') (w : WS P n N (rest c (i + 1) :: k) (slt ((d, .agg l') :: S)) h1 Q) : WS P n N (rest c i :: k) (slt S) h Q := by
  subst ho; exact WS.pop hi hd hf hw hs w
/-- The memory, seen as a list. -/
theorem WS.mem_eq {h2 : LH} {t : T V} (he : h = h2) (w : WS P n N k t h2 Q) : WS P n N k t h Q := by subst he; exact w
end

theorem mem_next (ro : Nat) (M : List (Option Blk)) : (mem ro M).next = M.length := rfl

/-! ### Rows of one length -/
theorem flat_len {z : Nat} : ∀ {L : List (List V)}, (∀ r ∈ L, r.length = z) → L.flatten.length = L.length * z
  | [], _ => by simp
  | r :: L, h => by
    simp only [List.flatten_cons, List.length_append, List.length_cons, flat_len (fun r hr => h r (List.mem_cons_of_mem _ hr)), h r (List.mem_cons_self ..)]
    rw [Nat.add_mul]; omega
theorem flat_drop {z : Nat} : ∀ {L : List (List V)} (j : Nat), (∀ r ∈ L, r.length = z) → L.flatten.drop (j * z) = (L.drop j).flatten
  | L, 0, _ => by simp
  | [], j + 1, _ => by simp
  | r :: L, j + 1, h => by
    have hr := h r (List.mem_cons_self ..)
    rw [List.flatten_cons, show (j + 1) * z = r.length + j * z by rw [hr, Nat.add_mul]; omega, ← List.drop_drop, List.drop_left, List.drop_succ_cons]
    exact flat_drop j (fun r hr => h r (List.mem_cons_of_mem _ hr))
theorem flat_get {z : Nat} {L : List (List V)} {j f : Nat} {r : List V} {v : V} (h : ∀ r ∈ L, r.length = z) (hj : L[j]? = some r) (hf : r[f]? = some v) : L.flatten[j * z + f]? = some v := by
  rw [← List.getElem?_drop, flat_drop j h]
  have hl := (List.getElem?_eq_some_iff.1 hj).1
  have he : L[j] = r := (List.getElem?_eq_some_iff.1 hj).2
  rw [List.drop_eq_getElem_cons hl, List.flatten_cons, he, List.getElem?_append_left (List.getElem?_eq_some_iff.1 hf).1, hf]
theorem flat_part {z : Nat} {L : List (List V)} {j f m : Nat} {r : List V} (h : ∀ r ∈ L, r.length = z) (hj : L[j]? = some r) (hm : f + m ≤ r.length) : (L.flatten.drop (j * z + f)).take m = (r.drop f).take m := by
  rw [← List.drop_drop, flat_drop j h]
  have hl := (List.getElem?_eq_some_iff.1 hj).1
  have he : L[j] = r := (List.getElem?_eq_some_iff.1 hj).2
  rw [List.drop_eq_getElem_cons hl, List.flatten_cons, he, List.drop_append_of_le_length (by omega), List.take_append_of_le_length (by simp; omega)]
theorem setL_app {α : Type} (a b : List α) (o : Nat) (vs : List α) : setL (a ++ b) (a.length + o) vs = a ++ setL b o vs := by
  induction vs generalizing b o with
  | nil => rfl
  | cons v vs ih =>
    simp only [setL]
    rw [List.set_append_right _ _ (by omega), show a.length + o - a.length = o by omega, Nat.add_assoc, ih]
theorem setL_left {α : Type} (a b : List α) (o : Nat) (vs : List α) (h : o + vs.length ≤ a.length) : setL (a ++ b) o vs = setL a o vs ++ b := by
  induction vs generalizing a o with
  | nil => rfl
  | cons v vs ih =>
    simp only [List.length_cons] at h
    simp only [setL]
    rw [List.set_append_left _ _ (by omega), ih _ _ (by simp; omega)]
theorem flat_set {z : Nat} : ∀ {L : List (List V)} {j f : Nat} {r vs : List V}, (∀ r ∈ L, r.length = z) → L[j]? = some r → f + vs.length ≤ r.length → setL L.flatten (j * z + f) vs = (L.set j (setL r f vs)).flatten
  | [], j, f, r, vs, _, hj, _ => by simp at hj
  | x :: L, 0, f, r, vs, h, hj, hm => by
    simp only [List.getElem?_cons_zero, Option.some.injEq] at hj
    subst hj
    simp only [Nat.zero_mul, Nat.zero_add, List.flatten_cons, List.set_cons_zero]
    exact setL_left _ _ _ _ hm
  | x :: L, j + 1, f, r, vs, h, hj, hm => by
    have hx := h x (List.mem_cons_self ..)
    simp only [List.flatten_cons, List.set_cons_succ]
    rw [show (j + 1) * z + f = x.length + (j * z + f) by rw [hx, Nat.add_mul]; omega, setL_app, flat_set (fun r hr => h r (List.mem_cons_of_mem _ hr)) (by simpa using hj) hm]

/-- 1 plain, 2 a number is worked out, 3 a bit, 4 a field's place, 5 a struct, 6 an element's place, 7 a load, 8 a store, 9 new memory, 10 a call. -/
def opk : Op → Nat
  | .binOp op _ _ _ _ => match op with
    | .eql | .neq | .lss | .leq | .gtr | .geq => 3
    | _ => 2
  | .unOp op _ _ => match op with
    | .not => 3
    | _ => 2
  | .convert _ _ _ => 2
  | .fieldAddr _ _ _ => 4
  | .build _ _ => 5
  | .indexAddr _ _ _ => 6
  | .load _ _ => 7
  | .store _ _ _ => 8
  | .alloc _ | .box _ _ | .buildSlice _ _ _ | .makeSlice _ _ _ => 9
  | .call ⟨.builtin b, _, _⟩ => match b with
    | .append => 11
    | .copy => 12
    | _ => 1
  | .call _ => 10
  | .slice _ _ _ _ _ => 13
  | .index _ _ _ => 14
  | _ => 1
section
variable {P : Program} {tb : Tb P} {cf : CF} {n N : Nat} {k : List Fm} {c : Code} {S : List (Nat × V)} {t : T V} {h : LH} {Q : Ex → T V → LH → Prop} {K : List Nat} {i : Nat}
theorem WS.kk (q : Nat) (_hk : opk (kop c i).op = q) (w : WS P n N (rest c i :: k) t h Q) : WS P n N (rest c i :: k) t h Q := w
theorem WD.kk (q : Nat) (_hk : opk (kop c i).op = q) (w : WD tb cf n N c i S h k K Q) : WD tb cf n N c i S h k K Q := w
theorem WS.kc (q : Nat) (_hk : kind c = q) (w : WS P n N (.c c :: k) t h Q) : WS P n N (.c c :: k) t h Q := w
end

section
variable {P : Program} {tb : Tb P} {cf : CF} {h h1 : LH} {e : Operand → Option V} {op : Op}
theorem evH_make {T E : TypeId} {x y : Operand} {m n z by_ : Nat} {k1 k2 : IntKind} {a b : Int} {zv : V} (hop : op = .makeSlice T x y) (hx : e x = some (.i k1 a)) (hy : e y = some (.i k2 b)) (hu : tb.und T = some (.slice E)) (hz : tb.sz E = some z)
    (hb : tb.bytes E = some by_) (hv : tb.zero E = some zv) (hzl : (vcells zv).length = z) (h0 : 0 < z) (ha : a = (m : Int)) (hbn : b = (n : Int)) (hmn : m ≤ n) (hbb : by_ * n ≤ 281474976710656) (hn : n ≤ 9223372036854775807) :
    evH tb e h op = some (.sl (some (h.next, 0)) m n false, h.new ⟨reps (vcells zv) n, E, true⟩) := by
  subst hop; subst ha; subst hbn
  simp only [evH, hx, hy, mkSl, hu, hz, hb, hv]
  have h9 : ((by_ * n : Nat) : Int) ≤ 281474976710656 := by omega
  rw [Int.natCast_mul] at h9
  rw [if_pos (by omega), if_pos (by omega), if_pos h9, if_pos (by omega), if_pos hzl, if_pos h0]
  simp only [Int.toNat_natCast]
theorem reps_eq (z : List V) : ∀ n, reps z n = (List.replicate n z).flatten
  | 0 => rfl
  | n + 1 => by simp [reps, List.replicate_succ, reps_eq z n]
theorem bnds_of {len cap a b : Nat} {lo hi : Option V} (hl : (lo = none ∧ a = 0) ∨ ∃ k, lo = some (.i k (a : Int))) (hh : (hi = none ∧ b = len) ∨ ∃ k, hi = some (.i k (b : Int))) (h1 : a ≤ b) (h2 : b ≤ cap) : bnds len cap lo hi none = some (a, b, cap) := by
  have e1 : hiB len cap none hi = some b := by
    rcases hh with ⟨rfl, rfl⟩ | ⟨k, rfl⟩
    · rfl
    · simp only [hiB]; rw [if_pos (by omega), if_pos (by omega), Int.toNat_natCast]
  have e2 : loB b lo = some a := by
    rcases hl with ⟨rfl, rfl⟩ | ⟨k, rfl⟩
    · rfl
    · simp only [loB]; rw [if_pos (by omega), if_pos (by omega), Int.toNat_natCast]
  simp only [bnds, mxB, e1, e2]
/-- A cut of a slice whose capacity is known. -/
theorem evP_slice {T E : TypeId} {x : Operand} {lo hi : Option Operand} {lo' hi' : Option V} {l o len cap z a b : Nat} (hop : op = .slice T x lo hi none) (hx : e x = some (.sl (some (l, o)) len cap false)) (hlo : evOp? e lo = some lo')
    (hhi : evOp? e hi = some hi') (hu : tb.und T = some (.slice E)) (hz : tb.sz E = some z) (hl : (lo' = none ∧ a = 0) ∨ ∃ k, lo' = some (.i k (a : Int))) (hh : (hi' = none ∧ b = len) ∨ ∃ k, hi' = some (.i k (b : Int)))
    (h1 : a ≤ b) (h2 : b ≤ cap) (h3 : a < cap) : evP tb e op = some (.sl (some (l, o + a * z)) (b - a) (cap - a) false) := by
  subst hop
  have hm : evOp? e none = some none := rfl
  simp only [evP, hx, hlo, hhi, hm, slV, hu, hz, bnds_of hl hh h1 h2, Option.isSome_none, Bool.not_false, Bool.or_true, if_true, adv, Option.map_some]
  rw [if_neg (by omega)]
/-- Appending to a row of one's own whose capacity is open. -/
theorem evH_append_open {T U E : TypeId} {x y : Operand} {l o len l2 o2 n c2 z by_ : Nat} {q : Bool} {cs new : List V} {zv : V} (hop : op = .call ⟨.builtin .append, #[x, y], #[T, U]⟩) (hx : e x = some (.sl (some (l, o)) len len true))
    (hy : e y = some (.sl (some (l2, o2)) n c2 q)) (hu : tb.und T = some (.slice E)) (hz : tb.sz E = some z) (hb : tb.bytes E = some by_) (hv : tb.zero E = some zv) (hni : noInt tb U = true) (hzl : (vcells zv).length = z) (h0 : 0 < by_)
    (hg : h.get l = some ⟨cs, E, true⟩) (hr : h.ro ≤ l) (hn : 0 < n) (hc : cellsAt h l2 o2 (n * z) = some new) (ho : o + len * z = cs.length) (hnl : new.length = n * z) (hcl : allCell new = true) (hbb : (len + n) * by_ ≤ 140737488355328) :
    evH tb e h op = some (.sl (some (h.next, 0)) (len + n) (len + n) true, (h.upd l none).new ⟨cs.drop o ++ new, E, true⟩) := by
  subst hop
  have hl : evLs e [x, y] = some [.sl (some (l, o)) len len true, .sl (some (l2, o2)) n c2 q] := by simp only [evLs, hx, hy]
  have hf : firstV h z n (.sl (some (l2, o2)) n c2 q) = some new := by simp only [firstV]; rw [if_neg (by omega)]; exact hc
  have h5 : ¬ len + n ≤ len := by omega
  simp only [evH, hl, appV, hu, hz, hb, hv, lnV, hni, hzl, h0, decide_true, Bool.and_self, if_true, hf, h5, if_false, hbb, hg]
  exact if_pos (by simp [hr, ho, hnl, hcl])
/-- Appending to nothing. -/
theorem evH_append_nil {T U E : TypeId} {x y : Operand} {l2 o2 n c2 z by_ : Nat} {q q0 : Bool} {new : List V} {zv : V} (hop : op = .call ⟨.builtin .append, #[x, y], #[T, U]⟩) (hx : e x = some (.sl none 0 0 q0)) (hq : q0 = false)
    (hy : e y = some (.sl (some (l2, o2)) n c2 q)) (hu : tb.und T = some (.slice E)) (hz : tb.sz E = some z) (hb : tb.bytes E = some by_) (hv : tb.zero E = some zv) (hni : noInt tb U = true) (hzl : (vcells zv).length = z) (h0 : 0 < by_)
    (hn : 0 < n) (hc : cellsAt h l2 o2 (n * z) = some new) (hnl : new.length = n * z) (hbb : n * by_ ≤ 140737488355328) :
    evH tb e h op = some (.sl (some (h.next, 0)) n n true, h.new ⟨new, E, true⟩) := by
  subst hop; subst hq
  have hl : evLs e [x, y] = some [.sl none 0 0 false, .sl (some (l2, o2)) n c2 q] := by simp only [evLs, hx, hy]
  have hf : firstV h z n (.sl (some (l2, o2)) n c2 q) = some new := by simp only [firstV]; rw [if_neg (by omega)]; exact hc
  have h8 : firstV h z 0 (.sl none 0 0 false) = some [] := rfl
  simp only [evH, hl, appV, hu, hz, hb, hv, lnV, hni, hzl, h0, decide_true, Bool.and_self, if_true, hf, h8, List.nil_append, Nat.zero_add]
  rw [if_neg (by omega), if_pos hbb, if_pos (by simp [hnl])]
/-- A call with plain arguments that answers true. -/
theorem FQ.closed {g : FuncId} {vs : List V} (hf : FQ P g vs LH.empty (fun v _ => v = .b true)) (hok : okL 0 vs) (w : World) :
    Calls P g (conL (fun _ => (⟨0, 0, none⟩, 0)) vs).toArray w (fun e w' => e = .returned (.bool true) ∧ RowKit.Below w.heap.size w w') :=
  (hf _ w (fun _ => (⟨0, 0, none⟩, 0)) w hok (relH_empty w _)).mono fun e w' ⟨u, v, h', he, hv, r', hu, _, _, R, _⟩ => by
    subst hv
    exact ⟨by rw [he, hu]; rfl, R.below.toKit⟩
end

section
variable {P : Program} {tb : Tb P} {n N : Nat} {k : List Fm} {c : Code} {S : List (Nat × V)} {t : T V} {h h1 h2 : LH} {Q : Ex → T V → LH → Prop} {x : Ex}

/-- Memories that tell the same. -/
structure SameH (h h2 : LH) : Prop where
  next : h.next = h2.next
  ro : h.ro = h2.ro
  get : ∀ l, h.get l = h2.get l
theorem SameH.relH {B : Nat → Prop} {W w : World} {r : Rho} (E : SameH h h2) (R : RelH P B W r h w) : RelH P B W r h2 w :=
  ⟨R.base, R.below, by rw [← E.ro, ← E.next]; exact R.roLe, fun l b hl => by rw [← E.next]; exact R.lt l b (by rw [E.get]; exact hl), fun l b hl => by rw [← E.next]; exact R.ok l b (by rw [E.get]; exact hl),
   fun l b hl => R.ro l b (by rw [E.get]; exact hl), fun l b hl => R.own l b (by rw [E.get]; exact hl), fun l l' b b' hl ho hl' ho' => R.inj l l' b b' (by rw [E.get]; exact hl) ho (by rw [E.get]; exact hl') ho'⟩
theorem WE.same (E : SameH h h2) (w : WE P n N k x t h2 Q) : WE P n N k x t h Q := by
  intro B W r a w0 hN F R Qw hQ
  have hn := E.next
  refine w B W r a w0 (by rw [← hn]; exact hN) (by rw [← hn]; exact F) (E.relH R) Qw fun x' t' h' r' a' w' hq he F' R' K => hQ x' t' h' r' a' w' hq he F' R' ⟨by rw [K.ro, E.ro], K.next, fun l hl => by rw [K.low l (by rw [← E.ro]; exact hl), E.get]⟩
theorem WS.same (E : SameH h h2) (w : WS P n N k t h2 Q) : WS P n N k t h Q := WE.same E w

/-! ### Calls -/
def setsL (s' : Nat → Nat) : List Nat → List (Option Blk) → List (Option Blk) → List (Option Blk) → List (Option Blk)
  | i :: L, m :: M, m' :: M', MM => setsL s' L M M' (match isOwn m with | true => MM.set i (ownB s' m') | false => MM)
  | _, _, _, MM => MM
def newsL (s' : Nat → Nat) : List (Option Blk) → List (Option Blk) → List (Option Blk)
  | _ :: M, _ :: M' => newsL s' M M'
  | _, M' => M'.map (ownB s')
theorem newsL_eq (s' : Nat → Nat) : ∀ (M M' : List (Option Blk)), M.length ≤ M'.length → newsL s' M M' = (M'.drop M.length).map (ownB s')
  | [], M', _ => by cases M' <;> rfl
  | _ :: M, [], h => by simp at h
  | _ :: M, _ :: M', h => by simpa [newsL] using newsL_eq s' M M' (by simpa using h)
theorem setsL_length (s' : Nat → Nat) : ∀ (L : List Nat) (M M' MM : List (Option Blk)), (setsL s' L M M' MM).length = MM.length
  | [], _, _, _ => by simp [setsL]
  | _ :: _, [], _, _ => by simp [setsL]
  | _ :: _, _ :: _, [], _ => by simp [setsL]
  | i :: L, m :: M, m' :: M', MM => by
    rw [setsL, setsL_length s' L M M']
    cases isOwn m <;> simp
theorem setsL_other (s' : Nat → Nat) (l : Nat) : ∀ (L : List Nat) (M M' MM : List (Option Blk)), (∀ k i : Nat, M[k]?.any isOwn = true → L[k]? = some i → i ≠ l) → (setsL s' L M M' MM)[l]? = MM[l]?
  | [], _, _, _, _ => by simp [setsL]
  | _ :: _, [], _, _, _ => by simp [setsL]
  | _ :: _, _ :: _, [], _, _ => by simp [setsL]
  | i :: L, m :: M, m' :: M', MM, h => by
    rw [setsL, setsL_other s' l L M M' _ (fun k j hk hj => h (k + 1) j (by simpa using hk) (by simpa using hj))]
    cases hm : isOwn m with
    | false => rfl
    | true => exact List.getElem?_set_ne (h 0 i (by simpa using hm) rfl)
theorem setsL_at (s' : Nat → Nat) (l : Nat) : ∀ (L : List Nat) (M M' MM : List (Option Blk)) (k : Nat), M[k]?.any isOwn = true → L[k]? = some l → l < MM.length → k < M'.length →
    (∀ k' i : Nat, M[k']?.any isOwn = true → L[k']? = some i → i = l → k' = k) → (setsL s' L M M' MM)[l]? = some (ownB s' (M'[k]?).join)
  | [], _, _, _, k, _, h, _, _, _ => by simp at h
  | _ :: _, [], _, _, k, h, _, _, _, _ => by simp at h
  | _ :: _, _ :: _, [], _, k, _, _, _, h, _ => by simp at h
  | i :: L, m :: M, m' :: M', MM, 0, h1, h2, h3, h4, h5 => by
    simp only [List.getElem?_cons_zero, Option.some.injEq] at h2
    subst h2
    rw [setsL, setsL_other s' i L M M' _ (fun k' j hk hj e => by have := h5 (k' + 1) j (by simpa using hk) (by simpa using hj) e; omega)]
    have : isOwn m = true := by simpa using h1
    rw [this]; simp [h3]
  | i :: L, m :: M, m' :: M', MM, k + 1, h1, h2, h3, h4, h5 => by
    rw [setsL, setsL_at s' l L M M' _ k (by simpa using h1) (by simpa using h2) (by cases isOwn m <;> simp [h3]) (by simpa using h4) (fun k' j hk hj e => by
      have := h5 (k' + 1) j (by simpa using hk) (by simpa using hj) e; omega)]
    simp

def plugL (N : Nat) (L : List Nat) (M M' MM : List (Option Blk)) : List (Option Blk) :=
  setsL (over (fun i => L.getD i 0) M.length N) L M M' MM ++ newsL (over (fun i => L.getD i 0) M.length N) M M'

theorem mem_get' (ro : Nat) (l : List (Option Blk)) (k : Nat) : (mem ro l).get k = (l[k]?).join := mem_get ro l k

theorem plug_mem {L : List Nat} {M M' MM : List (Option Blk)} (E : Emb (fun i => L.getD i 0) (mem 0 M) (mem 0 MM)) (hL : L.length = M.length) (hn : M.length ≤ M'.length) :
    SameH (plug (fun i => L.getD i 0) (mem 0 M) (mem 0 MM) (mem 0 M')) (mem 0 (plugL MM.length L M M' MM)) := by
  refine ⟨?_, rfl, fun l => ?_⟩
  · show MM.length + (M'.length - M.length) = (plugL _ _ _ _ _).length
    unfold plugL
    rw [List.length_append, setsL_length, newsL_eq _ _ _ hn, List.length_map, List.length_drop]
  · rw [mem_get]
    unfold plugL
    rw [newsL_eq _ _ _ hn]
    have hget : ∀ k, (mem 0 M).get k = (M[k]?).join := fun k => mem_get 0 M k
    have hget' : ∀ k, (mem 0 M').get k = (M'[k]?).join := fun k => mem_get 0 M' k
    have hown : ∀ k, M[k]?.any isOwn = isOwn ((mem 0 M).get k) := fun k => by
      rw [hget]; cases hk : M[k]? with
      | none => rfl
      | some b => rfl
    have hlt : ∀ k, k < M.length → L.getD k 0 < MM.length := fun k hk => E.lt k hk
    have hLk : ∀ k i, L[k]? = some i → L.getD k 0 = i := fun k i hk => by rw [List.getD_eq_getElem?_getD, hk]; rfl
    have hinj : ∀ k k', isOwn ((mem 0 M).get k) = true → isOwn ((mem 0 M).get k') = true → L.getD k 0 = L.getD k' 0 → k = k' := fun k k' hk hk' e => by
      obtain ⟨b, hb, ho⟩ := isOwn_iff.1 hk
      obtain ⟨b', hb', ho'⟩ := isOwn_iff.1 hk'
      exact E.inj k k' b b' hb ho hb' e
    simp only [plug, LH.get]
    have hsl := setsL_length (over (fun i => L.getD i 0) M.length MM.length) L M M' MM
    rcases get_puts (mem 0 MM).m l (newPuts (over (fun i => L.getD i 0) (mem 0 M).next (mem 0 MM).next) (mem 0 M).next (mem 0 MM).next (mem 0 M') ++ oldPuts (fun i => L.getD i 0) (over (fun i => L.getD i 0) (mem 0 M).next (mem 0 MM).next) (mem 0 M) (mem 0 M')) with ⟨x, hx, hx2⟩ | ⟨hx, hx2⟩
    · rw [hx2]
      rcases List.mem_append.1 hx with hx | hx
      · simp only [newPuts, List.mem_map, List.mem_range, Prod.mk.injEq] at hx
        obtain ⟨j, hj, hl, hb⟩ := hx
        have hj : j < M'.length - M.length := hj
        have hl : MM.length + j = l := hl
        rw [List.getElem?_append_right (by omega), hsl, show l - MM.length = j by omega, List.getElem?_map, List.getElem?_drop]
        rw [← hb]
        show ownB _ ((mem 0 M').get (M.length + j)) = _
        rw [hget', List.getElem?_eq_getElem (by omega)]
        rfl
      · simp only [oldPuts, List.mem_map, List.mem_filter, List.mem_range, Prod.mk.injEq] at hx
        obtain ⟨j, ⟨hj, ho⟩, hl, hb⟩ := hx
        have hj : j < M.length := hj
        have hlm : l < MM.length := by rw [← hl]; exact hlt j hj
        rw [List.getElem?_append_left (by omega)]
        rw [setsL_at _ l L M M' MM j (by rw [hown]; exact ho) (by rw [← hl, List.getD_eq_getElem?_getD, List.getElem?_eq_getElem (by omega)]; rfl) hlm (by omega)
          (fun k' i hk' hi e => hinj k' j (by rw [← hown]; exact hk') ho (by rw [hLk k' i hi, e, hl]))]
        rw [← hb, hget']
        rfl
    · rw [hx2]
      have hno : ∀ k i, M[k]?.any isOwn = true → L[k]? = some i → i ≠ l := fun k i hk hi e => by
        have hkl : k < M.length := by
          rcases Nat.lt_or_ge k M.length with h | h
          · exact h
          · rw [List.getElem?_eq_none h] at hk; cases hk
        refine hx l (ownB (over (fun i => L.getD i 0) (mem 0 M).next (mem 0 MM).next) ((mem 0 M').get k)) (List.mem_append.2 (.inr ?_)) rfl
        simp only [oldPuts, List.mem_map, List.mem_filter, List.mem_range, Prod.mk.injEq]
        exact ⟨k, ⟨hkl, by rw [← hown]; exact hk⟩, by rw [hLk k i hi, e], rfl⟩
      rcases Nat.lt_or_ge l MM.length with hl | hl
      · rw [List.getElem?_append_left (by omega), setsL_other _ l L M M' MM hno]
        exact mem_get 0 MM l
      · rw [List.getElem?_append_right (by omega), hsl, List.getElem?_map, List.getElem?_drop]
        have h0 : (mem 0 MM).m.get l = none := by
          have := mem_get 0 MM l
          rw [List.getElem?_eq_none hl] at this
          exact this
        rw [h0]
        rw [List.getElem?_eq_none (by
          rcases Nat.lt_or_ge (M.length + (l - MM.length)) M'.length with h | h
          · exfalso
            refine hx l (ownB (over (fun i => L.getD i 0) (mem 0 M).next (mem 0 MM).next) ((mem 0 M').get (M.length + (l - MM.length)))) (List.mem_append.2 (.inl ?_)) rfl
            simp only [newPuts, List.mem_map, List.mem_range, Prod.mk.injEq]
            refine ⟨l - MM.length, ?_, ?_, rfl⟩
            · show l - MM.length < M'.length - M.length; omega
            · show MM.length + (l - MM.length) = l; omega
          · exact h)]
        rfl

/-- A call goes so, in a memory told by a list. -/
def FM (P : Program) (g : FuncId) (vs : List V) (M : List (Option Blk)) (Q : V → List (Option Blk) → Prop) : Prop := FQ P g vs (mem 0 M) (fun v h => ∃ M', h = mem 0 M' ∧ Q v M')
theorem FQ.next {g : FuncId} {vs : List V} {Qf : V → LH → Prop} (hf : FQ P g vs h Qf) : FQ P g vs h (fun v h' => Qf v h' ∧ h.next ≤ h'.next) := fun B W r w hok R =>
  (hf B W r w hok R).mono fun _ _ ⟨u, v, h', hu, hv, r', e, hx, ok, R', K⟩ => ⟨u, v, h', hu, ⟨hv, K.next⟩, r', e, hx, ok, R', K⟩
theorem FM.mono {g : FuncId} {vs : List V} {M : List (Option Blk)} {Q Q' : V → List (Option Blk) → Prop} (hf : FM P g vs M Q) (hq : ∀ v M', Q v M' → Q' v M') : FM P g vs M Q' :=
  FQ.mono hf fun v h ⟨M', e, q⟩ => ⟨M', e, hq v M' q⟩

theorem WS.pcallM {i d : Nat} {g : FuncId} {vs vs' : List V} {M MM : List (Option Blk)} {Qf : V → List (Option Blk) → Prop} (L : List Nat) (hg : FM P g vs M Qf)
    (hi : Nat.blt i (kops c).toList.length = true) (hd : (kop c i).dst = some d) (hf : fitS n (kops c) (kop c i) S = true) (hw : wantS (kops c) (kop c i) S = true)
    (hc : evCall tb (evS S) (kop c i).op = some (g, vs')) (hvs : mapL (fun i => L.getD i 0) vs = vs') (hok : okL M.length vs) (hL : Nat.beq L.length M.length = true)
    (hp : embP (fun i => L.getD i 0) (mem 0 MM) M.length 0 M) (ho : own2 (fun i => L.getD i 0) M = true)
    (w : ∀ v M', Qf v M' → M.length ≤ M'.length → WS P n N (rest c (i + 1) :: k) (slt ((d, mapV (over (fun i => L.getD i 0) M.length MM.length) v) :: S)) (mem 0 (plugL MM.length L M M' MM)) Q) :
    WS P n N (rest c i :: k) (slt S) (mem 0 MM) Q := by
  have hL := Nat.eq_of_beq_eq_true hL
  have E : Emb (fun i => L.getD i 0) (mem 0 M) (mem 0 MM) := emb_mem (Nat.zero_le _) hp ho
  subst hvs
  refine WS.pcall hi hd hf hw hc ((FQ.next hg).emb E hok) ?_
  rintro v h1 ⟨v', h', ⟨⟨M', rfl, hq⟩, hn⟩, rfl, rfl⟩
  exact WS.same (plug_mem E hL hn) (w v' M' hq hn)

/-! ### Seen by lists -/
def slotsP (v : Nat → Nat) (n : Nat) (S : List (Nat × V)) : List (Nat × V) → Prop
  | [] => True
  | (k, u) :: L => (okV n u ∧ lk S k = some (mapV v u)) ∧ slotsP v n S L
theorem slotsP_spec {v : Nat → Nat} {n : Nat} {S : List (Nat × V)} : ∀ {L : List (Nat × V)}, slotsP v n S L → ∀ k u, (k, u) ∈ L → okV n u ∧ lk S k = some (mapV v u)
  | [], _, _, _, h => by simp at h
  | (k, u) :: L, hp, k', u', h => by
    rcases List.mem_cons.1 h with e | h
    · injection e with e1 e2; subst e1; subst e2; exact hp.1
    · exact slotsP_spec hp.2 k' u' h
/-- Slots and memory, seen through 'v'. -/
structure SeenBy (v : List Nat) (N : Nat) (S : List (Nat × V)) (MM : List (Option Blk)) (S2 : List (Nat × V)) (M2 : List (Option Blk)) : Prop where
  id : (List.range N).all (fun i => Nat.beq (v.getD i 0) i) = true
  nx : Nat.ble N M2.length = true
  mm : viewP (fun i => v.getD i 0) (mem 0 MM) M2.length 0 M2
  own : own2 (fun i => v.getD i 0) M2 = true
  slots : slotsP (fun i => v.getD i 0) M2.length S S2
theorem SeenBy.view0 {v : List Nat} {MM M2 : List (Option Blk)} {S2 : List (Nat × V)} (V : SeenBy v N S MM S2 M2) : View0 (fun i => v.getD i 0) N (mem 0 MM) (mem 0 M2) := by
  have h2 := viewP_spec M2 0 V.mm
  simp only [Nat.zero_add] at h2
  refine ⟨fun k hk => ?_, Nat.le_of_ble_eq_true V.nx, rfl, Nat.zero_le _, fun k b hk => ?_, fun k k' b b' hk hb hk' hb' e => ?_, fun k hk => absurd hk (Nat.not_lt_zero k)⟩
  · exact Nat.eq_of_beq_eq_true (List.all_eq_true.1 V.id k (List.mem_range.2 hk))
  · have hk := mem_get_some hk
    exact ⟨(List.getElem?_eq_some_iff.1 hk).1, h2 k b hk⟩
  · exact own2_spec V.own (mem_get_some hk) hb (mem_get_some hk') e
theorem SeenBy.slk {v : List Nat} {MM M2 : List (Option Blk)} {S2 : List (Nat × V)} (V : SeenBy v N S MM S2 M2) : ∀ k u, (slt S2).get k = some u → okV (mem 0 M2).next u ∧ (slt S).get k = some (mapV (fun i => v.getD i 0) u) := fun k u hu => by
  rw [lk_slt]; exact slotsP_spec V.slots k u (slt_get hu)
theorem WS.seen (v : List Nat) {MM M2 : List (Option Blk)} {S2 : List (Nat × V)} (V : SeenBy v N S MM S2 M2) (w : WS P n N k (slt S2) (mem 0 M2) Q) : WS P n N k (slt S) (mem 0 MM) Q := WS.view V.view0 V.slk w

/-- What a round leaves may be seen as the state 'a'. -/
def Seen (N : Nat) (t : T V) (h : LH) (S2 : List (Nat × V)) (M2 : List (Option Blk)) : Prop := ∃ v : Nat → Nat, View0 v N h (mem 0 M2) ∧ ∀ k u, (slt S2).get k = some u → okV M2.length u ∧ t.get k = some (mapV v u)
theorem SeenBy.seen {v : List Nat} {MM M2 : List (Option Blk)} {S2 : List (Nat × V)} (V : SeenBy v N S MM S2 M2) : Seen N (slt S) (mem 0 MM) S2 M2 := ⟨_, V.view0, V.slk⟩

/-- A loop, by what stays. -/
theorem WL.inv {σ : Type} (SS : σ → List (Nat × V)) (M : σ → List (Option Blk)) (I : σ → Prop) (μ : σ → Nat)
    (hb : ∀ a, I a → WS P n N [.c c] (slt (SS a)) (mem 0 (M a)) (fun x t' h' => match x with | .n => ∃ a', I a' ∧ μ a' < μ a ∧ Seen N t' h' (SS a') (M a') | x => Q x t' h')) :
    ∀ m a, I a → μ a < m → WL P n N c m (slt (SS a)) (mem 0 (M a)) Q
  | 0, a, _, h => absurd h (Nat.not_lt_zero _)
  | m + 1, a, ha, hm => by
    refine WL.round (WE.mono (fun x t' h' hq => ?_) (hb a ha))
    cases x with
    | n =>
      obtain ⟨a', hi, hlt, v, hv, hs⟩ := hq
      exact WL.view hv hs (WL.inv SS M I μ hb m a' hi (by omega))
    | x id => exact hq
    | r => exact hq

end

section
variable {P : Program} {tb : Tb P} {cf : CF} {n N : Nat} {k : List Fm} {c : Code} {S : List (Nat × V)} {t : T V} {h h1 : LH} {Q : Ex → T V → LH → Prop} {K : List Nat} {i d : Nat}
theorem WS.poBS {x : Bool} (hi : Nat.blt i (kops c).toList.length = true) (hd : (kop c i).dst = some d) (hf : fitS n (kops c) (kop c i) S = true) (hw : wantS (kops c) (kop c i) S = true)
    (hs : step tb noCalls (evS S) h (kop c i).op = some (.b x, h1)) (w1 : x = true → WS P n N (rest c (i + 1) :: k) (slt ((d, .b true) :: S)) h1 Q) (w2 : x = false → WS P n N (rest c (i + 1) :: k) (slt ((d, .b false) :: S)) h1 Q) :
    WS P n N (rest c i :: k) (slt S) h Q := by
  cases x with
  | true => exact WS.pop hi hd hf hw hs (w1 rfl)
  | false => exact WS.pop hi hd hf hw hs (w2 rfl)
theorem WD.pBS {x : Bool} (hi : Nat.blt i (kops c).toList.length = true) (hd : (kop c i).dst = some d) (hf : fitS n (kops c) (kop c i) S = true) (hw : wantS (kops c) (kop c i) S = true)
    (hs : evP tb (evRS ((kop c i).looksAt (kops c)) S) (kop c i).op = some (.b x)) (w1 : x = true → WD tb cf n N c (i + 1) ((d, .b true) :: S) h k K Q) (w2 : x = false → WD tb cf n N c (i + 1) ((d, .b false) :: S) h k K Q) : WD tb cf n N c i S h k (0 :: K) Q := by
  cases x with
  | true => exact WD.p' hi hd hf hw hs (w1 rfl)
  | false => exact WD.p' hi hd hf hw hs (w2 rfl)
theorem WD.rA {l l' : List V} (hi : Nat.blt i (kops c).toList.length = true) (hd : (kop c i).dst = some d) (hf : fitS n (kops c) (kop c i) S = true) (hw : wantS (kops c) (kop c i) S = true)
    (hs : evQ tb cf (evRS ((kop c i).looksAt (kops c)) S) h (kop c i).op = some (.agg l)) (ho : l = l') (w : WD tb cf n N c (i + 1) ((d, .agg l') :: S) h k K Q) : WD tb cf n N c i S h k (1 :: K) Q := by
  subst ho; exact WD.r' hi hd hf hw hs w
/-- A body goes so, in a memory told by a list. -/
theorem FM.pbody {g : FuncId} {fn : Func} {vs : List V} {M : List (Option Blk)} {Qf : V → List (Option Blk) → Prop} (hf : tb.fn g = some fn) (hb : fn.body.isSome = true)
    (hc : WS P (frameN fn vs.length) M.length [.c (kb fn)] (slt (argS vs 0 [])) (mem 0 M) (fun x t' h' => (x = .n ∨ x = .r) ∧ ∃ v, resV tb t' h' fn.results.toList = some v ∧ ∃ M', h' = mem 0 M' ∧ Qf v M')) : FM P g vs M Qf := FQ.pbody hf hb hc
theorem WD.rBS {x : Bool} (hi : Nat.blt i (kops c).toList.length = true) (hd : (kop c i).dst = some d) (hf : fitS n (kops c) (kop c i) S = true) (hw : wantS (kops c) (kop c i) S = true)
    (hs : evQ tb cf (evRS ((kop c i).looksAt (kops c)) S) h (kop c i).op = some (.b x)) (w1 : x = true → WD tb cf n N c (i + 1) ((d, .b true) :: S) h k K Q) (w2 : x = false → WD tb cf n N c (i + 1) ((d, .b false) :: S) h k K Q) : WD tb cf n N c i S h k (1 :: K) Q := by
  cases x with
  | true => exact WD.r' hi hd hf hw hs (w1 rfl)
  | false => exact WD.r' hi hd hf hw hs (w2 rfl)
theorem WS.loopN {c : Code} {m : Nat} {t : T V} {h : LH} {QL : Ex → T V → LH → Prop} (hl : WL P n N c m t h QL) (k1 : ∀ x t' h', QL x t' h' → WE P n N k x t' h' Q) : WS P n N (.c (.loop c) :: k) t h Q := by
  intro B W r a w hN F R Qw hQ
  refine wp_loop_rounds m (hl B W r a w hN F R (wpK P k Qw) fun x t' h' r' a' w' hq he F' R' K => ?_)
  exact k1 x t' h' hq B W r' a' w' K.next F' R' Qw fun x2 t2 h2 r2 a2 w2 hq2 hx2 F2 R2 K2 => hQ x2 t2 h2 r2 a2 w2 hq2 (he.trans (Nat.le_refl _) hx2) F2 R2 ⟨K2.ro.trans K.ro, K2.next, fun l hl => (K2.low l (by rw [K.ro]; exact hl)).trans (K.low l hl)⟩
theorem WS.ploopN {m : Nat} {t : T V} {h : LH} {QL : Ex → T V → LH → Prop} (hk : kind c = 4) (hl : WL P n N (k1 c) m t h QL) (w : ∀ x t' h', QL x t' h' → WE P n N k x t' h' Q) : WS P n N (.c c :: k) t h Q := by
  unfold kind at hk; split at hk <;> first | (cases hk; done) | exact WS.loopN hl w
/-- A loop, from what stands ahead of it to what stands behind it. -/
theorem WS.ploopI {σ τ : Type} (SS : σ → List (Nat × V)) (M : σ → List (Option Blk)) (I : σ → Prop) (μ : σ → Nat) (SX : τ → List (Nat × V)) (MX : τ → List (Option Blk)) (J : τ → Prop) (id : Nat) (v : List Nat) (a0 : σ) {MM : List (Option Blk)} {k' : List Fm}
    (hk : kind c = 4) (h0 : I a0) (hs : SeenBy v N S MM (SS a0) (M a0)) (hu : unw id k = some k')
    (hb : ∀ a, I a → WS P n N [.c (k1 c)] (slt (SS a)) (mem 0 (M a)) (fun x t' h' => match x with
      | .n => ∃ a', I a' ∧ μ a' < μ a ∧ Seen N t' h' (SS a') (M a')
      | .x i => i = id ∧ ∃ b, J b ∧ Seen N t' h' (SX b) (MX b)
      | .r => Q .r t' h'))
    (hx : ∀ b, J b → WS P n N k' (slt (SX b)) (mem 0 (MX b)) Q) : WS P n N (.c c :: k) (slt S) (mem 0 MM) Q := by
  refine WS.seen v hs ?_
  refine WS.ploopN hk (QL := fun x t' h' => match x with
      | .n => False
      | .x i => i = id ∧ ∃ b, J b ∧ Seen N t' h' (SX b) (MX b)
      | .r => Q .r t' h') (WL.inv SS M I μ (fun a ha => WE.mono (fun x t' h' hq => ?_) (hb a ha)) (μ a0 + 1) a0 h0 (Nat.lt_succ_self _)) ?_
  · cases x with
    | n => exact hq
    | x i => exact hq
    | r => exact hq
  · intro x t' h' hq
    cases x with
    | n => exact hq.elim
    | x i =>
      obtain ⟨rfl, b, hj, w, hv, hs'⟩ := hq
      exact WE.caught hu (WS.view (v := w) hv hs' (hx b hj))
    | r => exact WE.ret hq
theorem WS.isR {i : Nat} {t : T V} (w : WS P n N (rest c i :: k) t h Q) : WS P n N (rest c i :: k) t h Q := w
theorem WD.isD {i : Nat} (w : WD tb cf n N c i S h k K Q) : WD tb cf n N c i S h k K Q := w
theorem WS.isC {t : T V} (w : WS P n N (.c c :: k) t h Q) : WS P n N (.c c :: k) t h Q := w
theorem WS.lt {i : Nat} {t : T V} (_h : Nat.blt i (kops c).toList.length = true) (w : WS P n N (rest c i :: k) t h Q) : WS P n N (rest c i :: k) t h Q := w
theorem WD.lt {i : Nat} (_h : Nat.blt i (kops c).toList.length = true) (w : WD tb cf n N c i S h k K Q) : WD tb cf n N c i S h k K Q := w
/-- Has an operation a guard? -/
def gd (o : Oper) : Bool := o.guard.isSome
theorem WS.gd {i : Nat} {t : T V} (_h : gd (kop c i) = true) (w : WS P n N (rest c i :: k) t h Q) : WS P n N (rest c i :: k) t h Q := w
theorem WD.gd {i : Nat} (_h : gd (kop c i) = true) (w : WD tb cf n N c i S h k K Q) : WD tb cf n N c i S h k K Q := w
theorem WS.kg {i : Nat} {t : T V} (a b : Nat) (_h : (Nat.ble a (opk (kop c i).op) && Nat.ble (opk (kop c i).op) b) = true) (w : WS P n N (rest c i :: k) t h Q) : WS P n N (rest c i :: k) t h Q := w
theorem WD.kg {i : Nat} (a b : Nat) (_h : (Nat.ble a (opk (kop c i).op) && Nat.ble (opk (kop c i).op) b) = true) (w : WD tb cf n N c i S h k K Q) : WD tb cf n N c i S h k K Q := w
/-- A memory seen through 'w'. -/
structure SeenM (w : List Nat) (N : Nat) (M1 M2 : List (Option Blk)) : Prop where
  id : (List.range N).all (fun i => Nat.beq (w.getD i 0) i) = true
  nx : Nat.ble N M2.length = true
  mm : viewP (fun i => w.getD i 0) (mem 0 M1) M2.length 0 M2
  own : own2 (fun i => w.getD i 0) M2 = true
theorem SeenM.view {w : List Nat} {M M1 M2 : List (Option Blk)} (V : SeenM w M.length M1 M2) : View (fun i => w.getD i 0) (mem 0 M) (mem 0 M1) (mem 0 M2) := by
  have h2 := viewP_spec M2 0 V.mm
  simp only [Nat.zero_add] at h2
  refine ⟨fun k hk => ?_, Nat.le_of_ble_eq_true V.nx, rfl, fun k b hk => ?_, fun k k' b b' hk hb hk' hb' e => ?_, fun k hk => absurd hk (Nat.not_lt_zero k)⟩
  · exact Nat.eq_of_beq_eq_true (List.all_eq_true.1 V.id k (List.mem_range.2 hk))
  · have hk := mem_get_some hk
    exact ⟨(List.getElem?_eq_some_iff.1 hk).1, h2 k b hk⟩
  · exact own2_spec V.own (mem_get_some hk) hb (mem_get_some hk') e
/-- What a call leaves, what nobody looks at being forgotten. -/
theorem FM.view {g : FuncId} {vs : List V} {M : List (Option Blk)} {Q1 Qf : V → List (Option Blk) → Prop} (hf : FM P g vs M Q1)
    (hq : ∀ v M1, Q1 v M1 → ∃ w M2 v', SeenM w M.length M1 M2 ∧ v = mapV (fun i => w.getD i 0) v' ∧ okV M2.length v' ∧ Qf v' M2) : FM P g vs M Qf :=
  FQ.view hf fun v h1 ⟨M1, e, q⟩ => by
    subst e
    obtain ⟨w, M2, v', V, ev, ok, q'⟩ := hq v M1 q
    exact ⟨_, v', mem 0 M2, ev, ok, V.view, M2, rfl, q'⟩
theorem FM.pbodyV {g : FuncId} {fn : Func} {vs : List V} {M : List (Option Blk)} {Qf : V → List (Option Blk) → Prop} (hf : tb.fn g = some fn) (hb : fn.body.isSome = true)
    (hc : WS P (frameN fn vs.length) M.length [.c (kb fn)] (slt (argS vs 0 [])) (mem 0 M) (fun x t' h' => (x = .n ∨ x = .r) ∧ ∃ v, resV tb t' h' fn.results.toList = some v ∧ ∃ M1, h' = mem 0 M1 ∧ ∃ w M2 v', SeenM w M.length M1 M2 ∧ v = mapV (fun i => w.getD i 0) v' ∧ okV M2.length v' ∧ Qf v' M2)) : FM P g vs M Qf :=
  FM.view (FM.pbody (tb := tb) (Qf := fun v M1 => ∃ w M2 v', SeenM w M.length M1 M2 ∧ v = mapV (fun i => w.getD i 0) v' ∧ okV M2.length v' ∧ Qf v' M2) hf hb hc) fun _ _ q => q
theorem mem_ro (ro : Nat) (M : List (Option Blk)) : (mem ro M).ro = ro := rfl
end

/-- How a thing lies in cells. -/
structure Rw (α : Type) where
  z : Nat
  enc : α → List V
  len : ∀ a, (enc a).length = z
  plain : ∀ a, okL 0 (enc a)
def cellsR {α : Type} (R : Rw α) (xs : List α) : List V := (xs.map R.enc).flatten

section
variable {α : Type} {R : Rw α} {xs : List α} {x y : α} {i f m : Nat} {v : V} {vs : List V}
theorem rowsR (R : Rw α) (xs : List α) : ∀ r ∈ xs.map R.enc, r.length = R.z := fun r hr => by obtain ⟨p, _, rfl⟩ := List.mem_map.1 hr; exact R.len p
theorem cellsR_len (R : Rw α) (xs : List α) : (cellsR R xs).length = xs.length * R.z := by rw [cellsR, flat_len (rowsR R xs), List.length_map]
theorem cellsR_get (h : xs[i]? = some x) (hf : (R.enc x)[f]? = some v) : (cellsR R xs)[i * R.z + f]? = some v :=
  flat_get (rowsR R xs) (by rw [List.getElem?_map, h]; rfl) hf
theorem cellsR_part (h : xs[i]? = some x) (hm : f + m ≤ R.z) : ((cellsR R xs).drop (i * R.z + f)).take m = ((R.enc x).drop f).take m :=
  flat_part (rowsR R xs) (by rw [List.getElem?_map, h]; rfl) (by rw [R.len]; exact hm)
theorem cellsR_set (h : xs[i]? = some x) (hm : f + vs.length ≤ R.z) (e : setL (R.enc x) f vs = R.enc y) : setL (cellsR R xs) (i * R.z + f) vs = cellsR R (xs.set i y) := by
  rw [cellsR, flat_set (rowsR R xs) (by rw [List.getElem?_map, h]; rfl) (by rw [R.len]; exact hm), e, cellsR, List.map_set]
theorem okL_app {n : Nat} {a b : List V} (ha : okL n a) (hb : okL n b) : okL n (a ++ b) := (okL_iff _ _).2 fun v hv => by
  rcases List.mem_append.1 hv with h | h
  · exact (okL_iff _ _).1 ha v h
  · exact (okL_iff _ _).1 hb v h
theorem okL_cellsR (n : Nat) (R : Rw α) (xs : List α) : okL n (cellsR R xs) := (okL_iff _ _).2 fun v hv => by
  obtain ⟨l, hl, hvl⟩ := List.mem_flatten.1 hv
  obtain ⟨a, _, rfl⟩ := List.mem_map.1 hl
  exact okV_mono (Nat.zero_le _) v ((okL_iff _ _).1 (R.plain a) v hvl)
theorem mapL_cellsR (s : Nat → Nat) (R : Rw α) (xs : List α) : mapL s (cellsR R xs) = cellsR R xs := mapL_plain s _ (okL_cellsR 0 R xs)
theorem cellsR_app (R : Rw α) (xs ys : List α) : cellsR R (xs ++ ys) = cellsR R xs ++ cellsR R ys := by simp [cellsR]
theorem cellsR_one (R : Rw α) (x : α) : cellsR R [x] = R.enc x := by simp [cellsR]
theorem cellsR_nil (R : Rw α) : cellsR R [] = [] := rfl
theorem cellsR_reps (R : Rw α) (x : α) (n : Nat) : reps (R.enc x) n = cellsR R (List.replicate n x) := by rw [reps_eq, cellsR, List.map_replicate]
theorem cellsR_drop (R : Rw α) (xs : List α) (j : Nat) : (cellsR R xs).drop (j * R.z) = cellsR R (xs.drop j) := by
  rw [cellsR, flat_drop j (rowsR R xs), cellsR, List.map_drop]
theorem cellsR_take (R : Rw α) (xs : List α) (j : Nat) : (cellsR R xs).take (j * R.z) = cellsR R (xs.take j) := by
  rcases Nat.lt_or_ge xs.length j with h | h
  · rw [List.take_of_length_le (by rw [cellsR_len]; exact Nat.mul_le_mul_right _ (by omega)), List.take_of_length_le (by omega)]
  · have e : cellsR R xs = cellsR R (xs.take j) ++ cellsR R (xs.drop j) := by rw [← cellsR_app, List.take_append_drop]
    have l : (cellsR R (xs.take j)).length = j * R.z := by rw [cellsR_len, List.length_take, Nat.min_eq_left h]
    rw [e, ← l, List.take_left]
end

/-- Whole numbers of one kind; bits. -/
def rwI (k : IntKind) : Rw Int := ⟨1, fun x => [.i k x], fun _ => rfl, fun _ => ⟨trivial, trivial⟩⟩
def rwB : Rw Bool := ⟨1, fun x => [.b x], fun _ => rfl, fun _ => ⟨trivial, trivial⟩⟩

/-- Slices: what is known of one that grew by append. -/
def slO (l : Nat) : Nat → V
  | 0 => .sl none 0 0 false
  | n + 1 => .sl (some (l, 0)) (n + 1) (n + 1) true
def blkO {α : Type} (R : Rw α) (t : TypeId) (xs : List α) : Option Blk := match xs with
  | [] => none
  | x :: l => some ⟨cellsR R (x :: l), t, true⟩
section
variable {α : Type} {R : Rw α} {xs : List α} {x y : α} {i f m : Nat} {v : V} {vs : List V}
theorem cellsR_get0 (h : xs[i]? = some x) (hf : (R.enc x)[0]? = some v) : (cellsR R xs)[i * R.z]? = some v := cellsR_get (f := 0) h hf
theorem cellsR_part0 (h : xs[i]? = some x) (hm : m ≤ R.z) : ((cellsR R xs).drop (i * R.z)).take m = ((R.enc x).drop 0).take m := cellsR_part (f := 0) h (by omega)
theorem cellsR_set0 (h : xs[i]? = some x) (hm : vs.length ≤ R.z) (e : setL (R.enc x) 0 vs = R.enc y) : setL (cellsR R xs) (i * R.z) vs = cellsR R (xs.set i y) := cellsR_set (f := 0) h (by omega) e
theorem cellsI_get {k : IntKind} {xs : List Int} {x : Int} (h : xs[i]? = some x) : (cellsR (rwI k) xs)[i]? = some (.i k x) := by
  have := cellsR_get (R := rwI k) (f := 0) h rfl
  simpa [rwI] using this
theorem cellsB_get {xs : List Bool} {x : Bool} (h : xs[i]? = some x) : (cellsR rwB xs)[i]? = some (.b x) := by
  have := cellsR_get (R := rwB) (f := 0) h rfl
  simpa [rwB] using this
theorem cellsI_set {k : IntKind} {xs : List Int} {x : Int} (h : i < xs.length) : setL (cellsR (rwI k) xs) i [.i k x] = cellsR (rwI k) (xs.set i x) := by
  have := cellsR_set (R := rwI k) (f := 0) (vs := [.i k x]) (y := x) (List.getElem?_eq_getElem h) (Nat.le_refl _) rfl
  simpa [rwI] using this
theorem cellsB_set {xs : List Bool} {x : Bool} (h : i < xs.length) : setL (cellsR rwB xs) i [.b x] = cellsR rwB (xs.set i x) := by
  have := cellsR_set (R := rwB) (f := 0) (vs := [.b x]) (y := x) (List.getElem?_eq_getElem h) (Nat.le_refl _) rfl
  simpa [rwB] using this
theorem cellsI_len (k : IntKind) (xs : List Int) : (cellsR (rwI k) xs).length = xs.length := by rw [cellsR_len]; simp [rwI]
theorem cellsB_len (xs : List Bool) : (cellsR rwB xs).length = xs.length := by rw [cellsR_len]; simp [rwB]
end

def mkl {α : Type} (n : Nat) (f : Nat → α) : List α := (List.range n).map f
section
variable {α : Type} {n i : Nat} {f g : Nat → α} {x : α}
theorem mkl_len : (mkl n f).length = n := by simp [mkl]
theorem mkl_get (h : i < n) : (mkl n f)[i]? = some (f i) := by simp [mkl, h]
theorem mkl_none (h : n ≤ i) : (mkl n f)[i]? = none := by simp [mkl, h]
theorem mkl_ext (h : ∀ j, j < n → f j = g j) : mkl n f = mkl n g := by
  apply List.ext_getElem?
  intro j
  rcases Nat.lt_or_ge j n with hj | hj
  · rw [mkl_get hj, mkl_get hj, h j hj]
  · rw [mkl_none hj, mkl_none hj]
theorem mkl_set (h1 : x = g i) (h2 : ∀ j, j < n → j ≠ i → f j = g j) : (mkl n f).set i x = mkl n g := by
  apply List.ext_getElem?
  intro j
  rw [List.getElem?_set]
  by_cases e : i = j
  · subst e; rw [if_pos rfl, mkl_len]
    by_cases hi : i < n
    · rw [if_pos hi, mkl_get hi, h1]
    · rw [if_neg hi, mkl_none (by omega)]
  · rw [if_neg e]
    rcases Nat.lt_or_ge j n with hj | hj
    · rw [mkl_get hj, mkl_get hj, h2 j hj (Ne.symm e)]
    · rw [mkl_none hj, mkl_none hj]
theorem mkl_is {xs : List α} (hl : xs.length = n) (h : ∀ j, j < n → xs[j]? = some (f j)) : xs = mkl n f := by
  apply List.ext_getElem?
  intro j
  rcases Nat.lt_or_ge j n with hj | hj
  · rw [mkl_get hj, h j hj]
  · rw [mkl_none hj, List.getElem?_eq_none (by omega)]
theorem replicate_mkl : List.replicate n x = mkl n (fun _ => x) := mkl_is (by simp) fun j hj => by rw [List.getElem?_replicate, if_pos hj]
end
variable {P : Program} {tb : Tb P}
theorem mem_nil : mem 0 [] = LH.empty := rfl
/-- A function without arguments, run by the machine. -/
theorem FM.run (hm : P.follows .mixedOrders = true) (f : Nat) {g : FuncId} (he : saysTrue (evF tb f g [] LH.empty) = true) : FM P g [] [] (fun v M' => v = .b true ∧ M' = []) := by
  unfold saysTrue at he
  split at he
  · next h heq =>
    refine FQ.view (FQ.of (FC.ev hm (f := f) heq)) ?_
    rintro v h1 ⟨rfl, rfl⟩
    exact ⟨fun i => i, .b true, mem 0 [], rfl, trivial, ⟨fun _ _ => rfl, Nat.le_refl _, rfl, fun l b hl => by simp [mem_get] at hl, fun l l' b b' hl => by simp [mem_get] at hl, fun l hl => absurd hl (Nat.not_lt_zero l)⟩, [], rfl, rfl, rfl⟩
  · cases he

theorem lk_i {S : List (Nat × V)} {k : Nat} {K : IntKind} {a b : Int} (h : lk S k = some (.i K b)) (e : b = a) : lk S k = some (.i K a) := by rw [h, e]
theorem lk_m {S : List (Nat × V)} {k : Nat} {u : V} {s : Nat → Nat} (h : lk S k = some u) (e : mapV s u = u) : lk S k = some (mapV s u) := by rw [h, e]
theorem lk_sl {S : List (Nat × V)} {k l o n c o' n' c' : Nat} {q : Bool} (h : lk S k = some (.sl (some (l, o)) n c q)) (e1 : o = o') (e2 : n = n') (e3 : c = c') : lk S k = some (.sl (some (l, o')) n' c' q) := by rw [h, e1, e2, e3]
theorem d_t {p : Prop} [Decidable p] (h : p) : decide p = true := decide_eq_true h
theorem d_f {p : Prop} [Decidable p] (h : ¬ p) : decide p = false := decide_eq_false h
theorem nd_t {p : Prop} [Decidable p] (h : ¬ p) : (!decide p) = true := by simp [h]
theorem nd_f {p : Prop} [Decidable p] (h : p) : (!decide p) = false := by simp [h]
section
variable {P : Program} (tb : Tb P)
mutual
def okEq : Nat → TypeId → V → V → Bool
  | 0, _, _, _ => false
  | d + 1, t, x, y => match x, y with
    | .b _, .b _ => (match tb.und t with | some .bool => true | _ => false)
    | .i k _, .i k' _ => (match tb.und t with | some (.int _) => decide (k = k') | _ => false)
    | .agg xs, .agg ys => (match tb.und t with | some (.struct fs) => !P.stoodInHeld t && okFs d fs.toList xs ys | some (.array len e) => (match tb.sz e with | some z => okEs d e z (List.range len) xs ys | none => false) | _ => false)
    | _, _ => false
def okFs : Nat → List Field → List V → List V → Bool
  | 0, _, _, _ => false
  | _ + 1, [], _, _ => true
  | d + 1, f :: fs, xs, ys => if f.name = "_" then okFs d fs xs ys else
    match partV tb f.type xs f.offset, partV tb f.type ys f.offset with
    | some a, some b => okEq d f.type a b && okFs d fs xs ys
    | _, _ => false
def okEs : Nat → TypeId → Nat → List Nat → List V → List V → Bool
  | 0, _, _, _, _, _ => false
  | _ + 1, _, _, [], _, _ => true
  | d + 1, e, z, i :: is, xs, ys =>
    match partV tb e xs (i * z), partV tb e ys (i * z) with
    | some a, some b => okEq d e a b && okEs d e z is xs ys
    | _, _ => false
end
mutual
def eqB : Nat → TypeId → V → V → Bool
  | 0, _, _, _ => true
  | d + 1, t, x, y => match x, y with
    | .b a, .b b => a == b
    | .i _ a, .i _ b => a == b
    | .agg xs, .agg ys => (match tb.und t with | some (.struct fs) => eqFsB d fs.toList xs ys | some (.array len e) => (match tb.sz e with | some z => eqEsB d e z (List.range len) xs ys | none => true) | _ => true)
    | _, _ => true
def eqFsB : Nat → List Field → List V → List V → Bool
  | 0, _, _, _ => true
  | _ + 1, [], _, _ => true
  | d + 1, f :: fs, xs, ys => if f.name = "_" then eqFsB d fs xs ys else
    match partV tb f.type xs f.offset, partV tb f.type ys f.offset with
    | some a, some b => eqB d f.type a b && eqFsB d fs xs ys
    | _, _ => true
def eqEsB : Nat → TypeId → Nat → List Nat → List V → List V → Bool
  | 0, _, _, _, _, _ => true
  | _ + 1, _, _, [], _, _ => true
  | d + 1, e, z, i :: is, xs, ys =>
    match partV tb e xs (i * z), partV tb e ys (i * z) with
    | some a, some b => eqB d e a b && eqEsB d e z is xs ys
    | _, _ => true
end
mutual
theorem eqIn_ok : ∀ (d : Nat) (t : TypeId) (x y : V), okEq tb d t x y = true → eqIn tb d t x y = some (eqB tb d t x y)
  | 0, _, _, _, h => by simp [okEq] at h
  | d + 1, t, x, y, h => by
    unfold okEq at h
    split at h
    · split at h
      · next hu => simp [eqIn, eqB, hu]
      · cases h
    · split at h
      · next hu => simp at h; simp [eqIn, eqB, hu, h]
      · cases h
    · split at h
      · next fs hu =>
        simp only [Bool.and_eq_true, Bool.not_eq_true'] at h
        simp only [eqIn, eqB, hu, h.1]
        exact eqFs_ok d _ _ _ h.2
      · next len el hu =>
        split at h
        · next z hz =>
          simp only [eqIn, eqB, hu, hz]
          exact eqEs_ok d _ _ _ _ _ h
        · cases h
      · cases h
    · cases h
theorem eqEs_ok : ∀ (d : Nat) (e : TypeId) (z : Nat) (is : List Nat) (xs ys : List V), okEs tb d e z is xs ys = true → eqEs tb d e z is xs ys = some (eqEsB tb d e z is xs ys)
  | 0, _, _, _, _, _, h => by simp [okEs] at h
  | d + 1, _, _, [], _, _, _ => by simp [eqEs, eqEsB]
  | d + 1, e, z, i :: is, xs, ys, h => by
    unfold okEs at h
    split at h
    · next a b ha hb =>
      simp only [Bool.and_eq_true] at h
      simp only [eqEs, eqEsB, ha, hb, eqIn_ok d _ _ _ h.1]
      cases hq : eqB tb d e a b with
      | true => simp only [Bool.true_and]; exact eqEs_ok d e z is xs ys h.2
      | false => simp
    · cases h
theorem eqFs_ok : ∀ (d : Nat) (fs : List Field) (xs ys : List V), okFs tb d fs xs ys = true → eqFs tb d fs xs ys = some (eqFsB tb d fs xs ys)
  | 0, _, _, _, h => by simp [okFs] at h
  | d + 1, [], _, _, _ => by simp [eqFs, eqFsB]
  | d + 1, f :: fs, xs, ys, h => by
    unfold okFs at h
    split at h
    · next hn => simp only [eqFs, eqFsB, hn, if_true]; exact eqFs_ok d fs xs ys h
    · next hn =>
      split at h
      · next a b ha hb =>
        simp only [Bool.and_eq_true] at h
        simp only [eqFs, eqFsB, hn, if_false, ha, hb, eqIn_ok d _ _ _ h.1]
        cases hq : eqB tb d f.type a b with
        | true => simp only [Bool.true_and]; exact eqFs_ok d fs xs ys h.2
        | false => simp
      · cases h
end
variable {tb} {e : Operand → Option V} {op : Op}
theorem evP_eql {T : TypeId} {x y : Operand} {u : TypeId} {xs ys : List V} (hop : op = .binOp .eql T x y u) (hx : e x = some (.agg xs)) (hy : e y = some (.agg ys)) (hg : P.eqGuardType P.depth T = false) (hk : okEq tb 100 T (.agg xs) (.agg ys) = true) :
    evP tb e op = some (.b (eqB tb 100 T (.agg xs) (.agg ys))) := by
  subst hop
  simp only [evP, hx, hy, binV, eqV, hg, Bool.false_eq_true, if_false, eqIn_ok tb _ _ _ _ hk, Option.map_some]
theorem evP_neq {T : TypeId} {x y : Operand} {u : TypeId} {xs ys : List V} (hop : op = .binOp .neq T x y u) (hx : e x = some (.agg xs)) (hy : e y = some (.agg ys)) (hg : P.eqGuardType P.depth T = false) (hk : okEq tb 100 T (.agg xs) (.agg ys) = true) :
    evP tb e op = some (.b (!eqB tb 100 T (.agg xs) (.agg ys))) := by
  subst hop
  simp only [evP, hx, hy, binV, eqV, hg, Bool.false_eq_true, if_false, eqIn_ok tb _ _ _ _ hk, Option.map_some]
end
/-- A call with plain arguments that answers true. -/
theorem FM.top {P : Program} {g : FuncId} {vs : List V} (hf : FM P g vs [] (fun v _ => v = .b true)) (hok : okL 0 vs) (w : World) :
    Calls P g (conL (fun _ => (⟨0, 0, none⟩, 0)) vs).toArray w (fun e w' => e = .returned (.bool true) ∧ RowKit.Below w.heap.size w w') :=
  FQ.closed (FQ.mono hf fun _ _ ⟨_, _, q⟩ => q) hok w

section
variable {P : Program} {tb : Tb P} {cf : CF} {h h1 : LH} {e : Operand → Option V} {op : Op}
theorem bnds_ofI {len cap a b : Nat} {lo hi : Option V} (hl : (lo = none ∧ a = 0) ∨ ∃ k z, lo = some (.i k z) ∧ z = (a : Int)) (hh : (hi = none ∧ b = len) ∨ ∃ k z, hi = some (.i k z) ∧ z = (b : Int)) (h1 : a ≤ b) (h2 : b ≤ cap) : bnds len cap lo hi none = some (a, b, cap) :=
  bnds_of (hl.imp id fun ⟨k, z, e1, e2⟩ => ⟨k, by rw [e1, e2]⟩) (hh.imp id fun ⟨k, z, e1, e2⟩ => ⟨k, by rw [e1, e2]⟩) h1 h2
/-- A cut of a slice whose capacity is known. -/
theorem evP_sliceC {T E : TypeId} {x : Operand} {lo hi : Option Operand} {lo' hi' : Option V} {l o len cap z a b : Nat} (hop : op = .slice T x lo hi none) (hx : e x = some (.sl (some (l, o)) len cap false)) (hlo : evOp? e lo = some lo')
    (hhi : evOp? e hi = some hi') (hu : tb.und T = some (.slice E)) (hz : tb.sz E = some z) (hl : (lo' = none ∧ a = 0) ∨ ∃ k z, lo' = some (.i k z) ∧ z = (a : Int)) (hh : (hi' = none ∧ b = len) ∨ ∃ k z, hi' = some (.i k z) ∧ z = (b : Int))
    (h1 : a ≤ b) (h2 : b ≤ cap) (h3 : a < cap) : evP tb e op = some (.sl (some (l, o + a * z)) (b - a) (cap - a) false) := by
  subst hop
  have hm : evOp? e none = some none := rfl
  simp only [evP, hx, hlo, hhi, hm, slV, hu, hz, bnds_ofI hl hh h1 h2, Option.isSome_none, Bool.not_false, Bool.or_true, if_true, adv, Option.map_some]
  rw [if_neg (by omega)]
/-- The same at its very end. -/
theorem evP_sliceCE {T E : TypeId} {x : Operand} {lo hi : Option Operand} {lo' hi' : Option V} {l o len cap z a b : Nat} (hop : op = .slice T x lo hi none) (hx : e x = some (.sl (some (l, o)) len cap false)) (hlo : evOp? e lo = some lo')
    (hhi : evOp? e hi = some hi') (hu : tb.und T = some (.slice E)) (hz : tb.sz E = some z) (hl : (lo' = none ∧ a = 0) ∨ ∃ k z, lo' = some (.i k z) ∧ z = (a : Int)) (hh : (hi' = none ∧ b = len) ∨ ∃ k z, hi' = some (.i k z) ∧ z = (b : Int))
    (h1 : a ≤ b) (h2 : b ≤ cap) (h3 : a = cap) : evP tb e op = some (.sl (some (l, o)) 0 0 false) := by
  subst hop
  have hm : evOp? e none = some none := rfl
  simp only [evP, hx, hlo, hhi, hm, slV, hu, hz, bnds_ofI hl hh h1 h2, Option.isSome_none, Bool.not_false, Bool.or_true, if_true, adv, Option.map_some]
  rw [if_pos (by omega), show b - a = 0 by omega, show cap - a = 0 by omega]
/-- A cut of a slice whose capacity is open. -/
theorem evP_sliceO {T E : TypeId} {x : Operand} {lo hi : Option Operand} {lo' hi' : Option V} {l o len cap z a b : Nat} (hop : op = .slice T x lo hi none) (hx : e x = some (.sl (some (l, o)) len cap true)) (hlo : evOp? e lo = some lo')
    (hhi : evOp? e hi = some hi') (hu : tb.und T = some (.slice E)) (hz : tb.sz E = some z) (hl : (lo' = none ∧ a = 0) ∨ ∃ k z, lo' = some (.i k z) ∧ z = (a : Int)) (hh : (hi' = none ∧ b = len) ∨ ∃ k z, hi' = some (.i k z) ∧ z = (b : Int))
    (h1 : a ≤ b) (h2 : b ≤ cap) (h3 : a = 0 ∨ a < cap) : evP tb e op = some (.sl (some (l, o + a * z)) (b - a) (cap - a) true) := by
  subst hop
  have hm : evOp? e none = some none := rfl
  simp only [evP, hx, hlo, hhi, hm, slV, hu, hz, bnds_ofI hl hh h1 h2, Option.isSome_none, Bool.not_true, Bool.or_false, Bool.false_eq_true, if_false, adv, Option.map_some]
  by_cases h0 : a = 0
  · subst h0; simp
  · rw [if_neg h0, if_pos (by omega)]
/-- Appending to a slice that is full and whose capacity is known. -/
theorem evH_append_full {T U E : TypeId} {x y : Operand} {l o len l2 o2 n c2 z by_ : Nat} {q : Bool} {old new : List V} {zv : V} (hop : op = .call ⟨.builtin .append, #[x, y], #[T, U]⟩) (hx : e x = some (.sl (some (l, o)) len len false))
    (hy : e y = some (.sl (some (l2, o2)) n c2 q)) (hu : tb.und T = some (.slice E)) (hz : tb.sz E = some z) (hb : tb.bytes E = some by_) (hv : tb.zero E = some zv) (hni : noInt tb U = true) (hzl : (vcells zv).length = z) (h0 : 0 < by_)
    (hn : 0 < n) (hlen : 0 < len) (hc0 : cellsAt h l o (len * z) = some old) (hc : cellsAt h l2 o2 (n * z) = some new) (hol : old.length = len * z) (hnl : new.length = n * z) (hbb : (len + n) * by_ ≤ 140737488355328) :
    evH tb e h op = some (.sl (some (h.next, 0)) (len + n) (len + n) true, h.new ⟨old ++ new, E, true⟩) := by
  subst hop
  have hl : evLs e [x, y] = some [.sl (some (l, o)) len len false, .sl (some (l2, o2)) n c2 q] := by simp only [evLs, hx, hy]
  have hf : firstV h z n (.sl (some (l2, o2)) n c2 q) = some new := by simp only [firstV]; rw [if_neg (by omega)]; exact hc
  have hf0 : firstV h z len (.sl (some (l, o)) len len false) = some old := by simp only [firstV]; rw [if_neg (by omega)]; exact hc0
  have h5 : ¬ len + n ≤ len := by omega
  simp only [evH, hl, appV, hu, hz, hb, hv, lnV, hni, hzl, h0, decide_true, Bool.and_self, if_true, hf, h5, if_false, hbb, hf0]
  exact if_pos ⟨hol, hnl⟩
/-- Appending nothing. -/
theorem evH_append_none {T U E : TypeId} {x y : Operand} {l o len cap c2 z by_ : Nat} {a : Option (Nat × Nat)} {q q2 : Bool} {zv : V} (hop : op = .call ⟨.builtin .append, #[x, y], #[T, U]⟩) (hx : e x = some (.sl (some (l, o)) len cap q))
    (hy : e y = some (.sl a 0 c2 q2)) (hu : tb.und T = some (.slice E)) (hz : tb.sz E = some z) (hb : tb.bytes E = some by_) (hv : tb.zero E = some zv) (hni : noInt tb U = true) (hzl : (vcells zv).length = z) (h0 : 0 < by_) (hc : len ≤ cap) :
    evH tb e h op = some (.sl (some (l, o)) len cap q, h) := by
  subst hop
  have hl : evLs e [x, y] = some [.sl (some (l, o)) len cap q, .sl a 0 c2 q2] := by simp only [evLs, hx, hy]
  have hf : firstV h z 0 (.sl a 0 c2 q2) = some [] := by rcases a with _ | ⟨b, o⟩ <;> rfl
  simp only [evH, hl, appV, hu, hz, hb, hv, lnV, hni, hzl, h0, decide_true, Bool.and_self, if_true, hf, Nat.add_zero, hc, stL]
theorem cellsAt_all {M : List (Option Blk)} {l m : Nat} {c : List V} {E : TypeId} {q : Bool} (hb : (mem 0 M).get l = some ⟨c, E, q⟩) (hl : c.length = m) : cellsAt (mem 0 M) l 0 m = some c := by
  subst hl
  simp only [cellsAt, hb, List.drop_zero, List.take_length, if_true]
theorem cellsAt_rows {α : Type} {R : Rw α} {M : List (Option Blk)} {l k n : Nat} {xs : List α} {E : TypeId} {q : Bool} {z o : Nat} (hb : (mem 0 M).get l = some ⟨cellsR R xs, E, q⟩) (hz : z = R.z) (ho : o = k * z) (hn : k + n ≤ xs.length) :
    cellsAt (mem 0 M) l o (n * z) = some (cellsR R ((xs.drop k).take n)) := by
  subst hz; subst ho
  simp only [cellsAt, hb, cellsR_drop, cellsR_take]
  rw [if_pos (by rw [cellsR_len, List.length_take, List.length_drop, Nat.min_eq_left (by omega)])]
end
theorem cellsI_app1 {k : IntKind} {xs : List Int} {x : Int} : cellsR (rwI k) xs ++ [.i k x] = cellsR (rwI k) (xs ++ [x]) := by rw [cellsR_app]; simp [cellsR, rwI]
theorem cellsB_app1 {xs : List Bool} {x : Bool} : cellsR rwB xs ++ [.b x] = cellsR rwB (xs ++ [x]) := by rw [cellsR_app]; simp [cellsR, rwB]
theorem cellsI_1 {k : IntKind} {x : Int} : [.i k x] = cellsR (rwI k) [x] := by simp [cellsR, rwI]
theorem cellsI_sing {k : IntKind} {x : Int} : cellsR (rwI k) [x] = [.i k x] := by simp [cellsR, rwI]
theorem cellsI_cons {k : IntKind} {x : Int} {xs : List Int} : V.i k x :: cellsR (rwI k) xs = cellsR (rwI k) (x :: xs) := by simp [cellsR, rwI]
theorem repsI {k : IntKind} {x : Int} (n : Nat) : reps [.i k x] n = cellsR (rwI k) (List.replicate n x) := cellsR_reps (rwI k) x n
theorem repsB {x : Bool} (n : Nat) : reps [.b x] n = cellsR rwB (List.replicate n x) := cellsR_reps rwB x n
section
variable {P : Program} {tb : Tb P} {cf : CF} {n N : Nat} {k : List Fm} {c : Code} {S : List (Nat × V)} {h h1 : LH} {Q : Ex → T V → LH → Prop} {K : List Nat} {i d : Nat} {v v' : V}
theorem WS.poV (hi : Nat.blt i (kops c).toList.length = true) (hd : (kop c i).dst = some d) (hf : fitS n (kops c) (kop c i) S = true) (hw : wantS (kops c) (kop c i) S = true)
    (hs : step tb noCalls (evS S) h (kop c i).op = some (v, h1)) (ho : v = v') (w : WS P n N (rest c (i + 1) :: k) (slt ((d, v') :: S)) h1 Q) : WS P n N (rest c i :: k) (slt S) h Q := by
  subst ho; exact WS.pop hi hd hf hw hs w
theorem WD.pV (hi : Nat.blt i (kops c).toList.length = true) (hd : (kop c i).dst = some d) (hf : fitS n (kops c) (kop c i) S = true) (hw : wantS (kops c) (kop c i) S = true)
    (hs : evP tb (evRS ((kop c i).looksAt (kops c)) S) (kop c i).op = some v) (ho : v = v') (w : WD tb cf n N c (i + 1) ((d, v') :: S) h k K Q) : WD tb cf n N c i S h k (0 :: K) Q := by
  subst ho; exact WD.p' hi hd hf hw hs w
end
def dist (v : Nat → Nat) (n : Nat) : Bool := (List.range n).all fun i => (List.range n).all fun j => Nat.beq i j || !Nat.beq (v i) (v j)
theorem own2_dist {v : Nat → Nat} {M : List (Option Blk)} {n : Nat} (hn : M.length = n) (h : dist v n = true) : own2 v M = true := by
  subst hn
  unfold own2
  unfold dist at h
  rw [List.all_eq_true] at h ⊢
  intro i hi
  have h1 := h i hi
  rw [Bool.or_eq_true]
  refine .inr ?_
  rw [List.all_eq_true] at h1 ⊢
  intro j hj
  have h2 := h1 j hj
  rw [Bool.or_eq_true] at h2 ⊢
  rcases h2 with h2 | h2
  · exact .inl (by rw [h2]; rfl)
  · exact .inr h2

def r0 : Rho := fun _ => (⟨0, 0, none⟩, 0)
/-- A row lies at an address. -/
def RowIn (W : World) (a : Option Addr) (cs : List V) : Prop := ∀ j v, cs[j]? = some v → ∃ ad, a = some ad ∧ W.cell? (ad.add j) = some (con r0 v)
def rowM (L : List (Option Addr × List V × TypeId)) : List (Option Blk) := L.map fun x => some ⟨x.2.1, x.2.2, false⟩
def rowR (L : List (Option Addr × List V × TypeId)) : Rho := fun l => (((L[l]?).bind (·.1)).getD ⟨0, 0, none⟩, 0)
theorem relH_rows {P : Program} (W : World) (L : List (Option Addr × List V × TypeId)) (h : ∀ x ∈ L, RowIn W x.1 x.2.1 ∧ okL 0 x.2.1) : RelH P (· < W.heap.size) W (rowR L) (mem 0 (rowM L)) W := by
  have hget : ∀ l b, (mem 0 (rowM L)).get l = some b → ∃ x, L[l]? = some x ∧ b = ⟨x.2.1, x.2.2, false⟩ := fun l b hb => by
    have := mem_get_some hb
    simp only [rowM, List.getElem?_map] at this
    cases hx : L[l]? with
    | none => rw [hx] at this; cases this
    | some x => rw [hx] at this; simp only [Option.map_some, Option.some.injEq] at this; exact ⟨x, rfl, this.symm⟩
  refine ⟨fun _ h => h, Below.refl _ _, Nat.zero_le _, fun l b hl => ?_, fun l b hl => ?_, fun l b hl _ j v hj => ?_, fun l b hl ho => ?_, fun l l' b b' hl ho => ?_⟩
  · obtain ⟨x, hx, _⟩ := hget l b hl
    show l < (rowM L).length
    simp only [rowM, List.length_map]
    exact (List.getElem?_eq_some_iff.1 hx).1
  · obtain ⟨x, hx, rfl⟩ := hget l b hl
    exact okL_mono (Nat.zero_le _) _ (h x (List.mem_of_getElem? hx)).2
  · obtain ⟨x, hx, rfl⟩ := hget l b hl
    obtain ⟨h1, h2⟩ := h x (List.mem_of_getElem? hx)
    obtain ⟨ad, ha, hc⟩ := h1 j v hj
    have hr : (rowR L l).1 = ad := by simp [rowR, hx, ha]
    have hp : con (rowR L) v = con r0 v := con_plain ((okL_iff _ _).1 h2 v (List.mem_of_getElem? hj)) _ _
    rw [hr, hp]
    have hbk : (ad.add j).block = ad.block := by unfold Addr.add; split <;> rfl
    exact ⟨by rw [← hbk]; exact World.block_lt_of_cell? _ _ hc, hc⟩
  · obtain ⟨x, hx, rfl⟩ := hget l b hl; cases ho
  · obtain ⟨x, hx, rfl⟩ := hget l b hl; cases ho
/-- A call whose arguments are rows and plain values, and that answers true. -/
theorem FM.topR {P : Program} {g : FuncId} {vs : List V} (L : List (Option Addr × List V × TypeId)) (hf : FM P g vs (rowM L) (fun v _ => v = .b true)) (hok : okL L.length vs) (w : World) (h : ∀ x ∈ L, RowIn w x.1 x.2.1 ∧ okL 0 x.2.1) :
    Calls P g (conL (rowR L) vs).toArray w (fun e w' => e = .returned (.bool true) ∧ RowKit.Below w.heap.size w w') :=
  (hf _ w (rowR L) w (by simpa [mem, rowM] using hok) (relH_rows w L h)).mono fun e w' ⟨u, v, h', he, ⟨_, _, hv⟩, r', hu, _, _, R, _⟩ => by
    subst hv
    exact ⟨by rw [he, hu]; rfl, R.below.toKit⟩
/-- How the argument stands in the machine. -/
def argA (a : Option Addr) (i : Nat) : Option (Nat × Nat) := a.map fun _ => (i, 0)
theorem argA_or (a : Option Addr) (i : Nat) : argA a i = none ∨ argA a i = some (i, 0) := by cases a <;> simp [argA]
theorem argA_some {W : World} {a : Option Addr} {cs : List V} (h : RowIn W a cs) (hl : 0 < cs.length) (i : Nat) : argA a i = some (i, 0) := by
  obtain ⟨ad, ha, _⟩ := h 0 _ (List.getElem?_eq_getElem hl)
  rw [ha]; rfl
theorem con_argA (L : List (Option Addr × List V × TypeId)) (i : Nat) (x : Option Addr × List V × TypeId) (hx : L[i]? = some x) (n c : Nat) : con (rowR L) (.sl (argA x.1 i) n c false) = .slice x.1 n c := by
  cases ha : x.1 with
  | none => rfl
  | some ad => simp [argA, con, rowR, hx, ha, Addr.add]

open Go.ChangeShapes Go.WideShapes Go.ChangeAt Go.RowKit in
theorem glueR {H : Type} {enc : TypeId × Value → H} {P : Program} {W : World} {base : Nat} {sp : Nat → Bool} {hd : Bool} {t e : TypeId} {α : Type} [Inhabited α] (R : Rw α) (good : α → Prop) {a : Option Addr} {len cap : Nat} {D : DataW H} {ps : List MemPlace} {ts : List TypeId} {ds : List (DataW H)} {j : Nat}
    (hsz : (DataW.weightsEach P ts ds).all (· ≤ reachBytes) = true) (ht : ts[j]? = some t) (hd' : ds[j]? = some D) (hu : P.underlying t = some (.slice e)) {B : Nat} (hB : P.bytesOf e = B) (hc : P.cellsOf e = R.z)
    (el : ∀ n cs x, DataW.trod enc P W base sp hd n e cs = some x → ∃ y, good y ∧ cs = conL r0 (R.enc y))
    (h : DataW.Trod enc P W base sp hd t (.slice a len cap) D ps) :
    ∃ l : List α, len = l.length ∧ RowIn W a (cellsR R l) ∧ l.length ≤ cap ∧ l.length ≤ maxLen ∧ l.length * B ≤ 140737488351232 ∧ ∀ x ∈ l, good x := by
  obtain ⟨fuel, hf⟩ := h
  rcases Go.Deep.open_slice hu hf with ⟨hcs, hx⟩ | ⟨ad, l, c, m, n, DD, Pl, hcs, hb, hl, hm, hmm, hx, hel⟩
  · simp [Value.cells] at hcs
    obtain ⟨rfl, rfl, rfl⟩ := hcs
    exact ⟨[], rfl, fun j v hj => by simp [cellsR] at hj, by simp, by simp, by simp, by simp⟩
  · simp [Value.cells] at hcs
    obtain ⟨rfl, rfl, rfl⟩ := hcs
    have hlm : len ≤ m := by rw [hmm]; split <;> omega
    obtain ⟨f, hfx⟩ := Go.Deep.choose_lt (n := len) (p := fun i (y : α) => good y ∧ ∃ cs', W.cells? base (ad.add (i * P.cellsOf e)) (P.cellsOf e) = some cs' ∧ cs' = conL r0 (R.enc y)) (fun i hi => by
      obtain ⟨cs', h1, h2⟩ := hel i (by omega)
      obtain ⟨y, g, hk⟩ := el _ _ _ h2
      exact ⟨y, g, cs', h1, hk⟩)
    obtain ⟨hD, _⟩ := Prod.mk.inj hx
    subst hD
    have z := sized_slice hsz ht hd' hu
    rw [hB] at z
    simp only [List.length_map, List.length_range] at z
    have hmx : (maxLen : Nat) ≤ 9223372036854775807 := by decide
    refine ⟨(List.range len).map f, by simp, ?_, by simpa using hl, by simp; omega, ?_, ?_⟩
    · intro j v hj
      refine ⟨ad, rfl, ?_⟩
      have hzl : ∀ y, (R.enc y).length = R.z := R.len
      have hlen := cellsR_len R ((List.range len).map f)
      have hj' := (List.getElem?_eq_some_iff.1 hj).1
      rw [hlen] at hj'
      simp only [List.length_map, List.length_range] at hj'
      have hzp : 0 < R.z := by
        rcases Nat.eq_zero_or_pos R.z with h0 | h0
        · rw [h0] at hj'; simp at hj'
        · exact h0
      have hq : j / R.z < len := (Nat.div_lt_iff_lt_mul hzp).2 hj'
      have hjm : j = (j / R.z) * R.z + j % R.z := by have := Nat.div_add_mod j R.z; rw [Nat.mul_comm] at this; exact this.symm
      have hrem : j % R.z < R.z := Nat.mod_lt _ hzp
      have hg : ((List.range len).map f)[j / R.z]? = some (f (j / R.z)) := by simp [hq]
      have hcell := cellsR_get (R := R) (f := j % R.z) hg (List.getElem?_eq_getElem (by rw [R.len]; exact hrem))
      rw [← hjm] at hcell
      rw [hcell] at hj
      injection hj with hj
      obtain ⟨_, cs', h1, hk⟩ := hfx (j / R.z) hq
      obtain ⟨_, hl2, hcl⟩ := World.cells?_some h1
      have := hcl (j % R.z) (by rw [hc]; exact hrem)
      rw [Go.Deep.add_add, hc, ← hjm] at this
      rw [this, hk, getElem?_conL, List.getElem?_eq_getElem (by rw [R.len]; exact hrem), ← hj]
      rfl
    · simp only [List.length_map, List.length_range]
      refine Nat.le_trans (Nat.mul_le_mul_right _ (Nat.le_add_right _ _)) z
    · intro x hx
      obtain ⟨i, hi, rfl⟩ := List.mem_map.1 hx
      exact (hfx i (List.mem_range.1 hi)).1

structure Mark (p : Prop) : Prop where
  h : p
section
variable {P : Program} {tb : Tb P} {cf : CF} {n N : Nat} {k : List Fm} {c : Code} {S : List (Nat × V)} {h h1 : LH} {Q : Ex → T V → LH → Prop} {K : List Nat} {i d : Nat} {v : V} {p : Prop} [Decidable p] {a b : Int}
theorem WS.poDT (hi : Nat.blt i (kops c).toList.length = true) (hd : (kop c i).dst = some d) (hf : fitS n (kops c) (kop c i) S = true) (hw : wantS (kops c) (kop c i) S = true) (hs : step tb noCalls (evS S) h (kop c i).op = some (.b (decide p), h1)) (hp : p) (w : WS P n N (rest c (i + 1) :: k) (slt ((d, .b true) :: S)) h1 Q) : WS P n N (rest c i :: k) (slt S) h Q := by
  rw [decide_eq_true hp] at hs; exact WS.pop hi hd hf hw hs w
theorem WS.poDF (hi : Nat.blt i (kops c).toList.length = true) (hd : (kop c i).dst = some d) (hf : fitS n (kops c) (kop c i) S = true) (hw : wantS (kops c) (kop c i) S = true) (hs : step tb noCalls (evS S) h (kop c i).op = some (.b (decide p), h1)) (hp : ¬ p) (w : WS P n N (rest c (i + 1) :: k) (slt ((d, .b false) :: S)) h1 Q) : WS P n N (rest c i :: k) (slt S) h Q := by
  rw [decide_eq_false hp] at hs; exact WS.pop hi hd hf hw hs w
theorem WS.poET (hi : Nat.blt i (kops c).toList.length = true) (hd : (kop c i).dst = some d) (hf : fitS n (kops c) (kop c i) S = true) (hw : wantS (kops c) (kop c i) S = true) (hs : step tb noCalls (evS S) h (kop c i).op = some (.b (a == b), h1)) (hp : a = b) (w : WS P n N (rest c (i + 1) :: k) (slt ((d, .b true) :: S)) h1 Q) : WS P n N (rest c i :: k) (slt S) h Q := by
  rw [beq_iff_eq.2 hp] at hs; exact WS.pop hi hd hf hw hs w
theorem WS.poEF (hi : Nat.blt i (kops c).toList.length = true) (hd : (kop c i).dst = some d) (hf : fitS n (kops c) (kop c i) S = true) (hw : wantS (kops c) (kop c i) S = true) (hs : step tb noCalls (evS S) h (kop c i).op = some (.b (a == b), h1)) (hp : ¬ a = b) (w : WS P n N (rest c (i + 1) :: k) (slt ((d, .b false) :: S)) h1 Q) : WS P n N (rest c i :: k) (slt S) h Q := by
  rw [beq_eq_false_iff_ne.2 hp] at hs; exact WS.pop hi hd hf hw hs w
theorem WS.poNT (hi : Nat.blt i (kops c).toList.length = true) (hd : (kop c i).dst = some d) (hf : fitS n (kops c) (kop c i) S = true) (hw : wantS (kops c) (kop c i) S = true) (hs : step tb noCalls (evS S) h (kop c i).op = some (.b (a != b), h1)) (hp : ¬ a = b) (w : WS P n N (rest c (i + 1) :: k) (slt ((d, .b true) :: S)) h1 Q) : WS P n N (rest c i :: k) (slt S) h Q := by
  rw [bne_iff_ne.2 hp] at hs; exact WS.pop hi hd hf hw hs w
theorem WS.poNF (hi : Nat.blt i (kops c).toList.length = true) (hd : (kop c i).dst = some d) (hf : fitS n (kops c) (kop c i) S = true) (hw : wantS (kops c) (kop c i) S = true) (hs : step tb noCalls (evS S) h (kop c i).op = some (.b (a != b), h1)) (hp : a = b) (w : WS P n N (rest c (i + 1) :: k) (slt ((d, .b false) :: S)) h1 Q) : WS P n N (rest c i :: k) (slt S) h Q := by
  rw [bne_eq_false_iff_eq.2 hp] at hs; exact WS.pop hi hd hf hw hs w
theorem WS.poDS (hi : Nat.blt i (kops c).toList.length = true) (hd : (kop c i).dst = some d) (hf : fitS n (kops c) (kop c i) S = true) (hw : wantS (kops c) (kop c i) S = true) (hs : step tb noCalls (evS S) h (kop c i).op = some (.b (decide p), h1))
    (w1 : p → WS P n N (rest c (i + 1) :: k) (slt ((d, .b true) :: S)) h1 Q) (w2 : ¬ p → WS P n N (rest c (i + 1) :: k) (slt ((d, .b false) :: S)) h1 Q) : WS P n N (rest c i :: k) (slt S) h Q := by
  by_cases hp : p
  · exact WS.poDT hi hd hf hw hs hp (w1 hp)
  · exact WS.poDF hi hd hf hw hs hp (w2 hp)
theorem WS.poES (hi : Nat.blt i (kops c).toList.length = true) (hd : (kop c i).dst = some d) (hf : fitS n (kops c) (kop c i) S = true) (hw : wantS (kops c) (kop c i) S = true) (hs : step tb noCalls (evS S) h (kop c i).op = some (.b (a == b), h1))
    (w1 : a = b → WS P n N (rest c (i + 1) :: k) (slt ((d, .b true) :: S)) h1 Q) (w2 : ¬ a = b → WS P n N (rest c (i + 1) :: k) (slt ((d, .b false) :: S)) h1 Q) : WS P n N (rest c i :: k) (slt S) h Q := by
  by_cases hp : a = b
  · exact WS.poET hi hd hf hw hs hp (w1 hp)
  · exact WS.poEF hi hd hf hw hs hp (w2 hp)
theorem WS.poNS (hi : Nat.blt i (kops c).toList.length = true) (hd : (kop c i).dst = some d) (hf : fitS n (kops c) (kop c i) S = true) (hw : wantS (kops c) (kop c i) S = true) (hs : step tb noCalls (evS S) h (kop c i).op = some (.b (a != b), h1))
    (w1 : ¬ a = b → WS P n N (rest c (i + 1) :: k) (slt ((d, .b true) :: S)) h1 Q) (w2 : a = b → WS P n N (rest c (i + 1) :: k) (slt ((d, .b false) :: S)) h1 Q) : WS P n N (rest c i :: k) (slt S) h Q := by
  by_cases hp : a = b
  · exact WS.poNF hi hd hf hw hs hp (w2 hp)
  · exact WS.poNT hi hd hf hw hs hp (w1 hp)
theorem WD.pDT (hi : Nat.blt i (kops c).toList.length = true) (hd : (kop c i).dst = some d) (hf : fitS n (kops c) (kop c i) S = true) (hw : wantS (kops c) (kop c i) S = true) (hs : evP tb (evRS ((kop c i).looksAt (kops c)) S) (kop c i).op = some (.b (decide p))) (hp : p) (w : WD tb cf n N c (i + 1) ((d, .b true) :: S) h k K Q) : WD tb cf n N c i S h k (0 :: K) Q := by
  rw [decide_eq_true hp] at hs; exact WD.p' hi hd hf hw hs w
theorem WD.pDF (hi : Nat.blt i (kops c).toList.length = true) (hd : (kop c i).dst = some d) (hf : fitS n (kops c) (kop c i) S = true) (hw : wantS (kops c) (kop c i) S = true) (hs : evP tb (evRS ((kop c i).looksAt (kops c)) S) (kop c i).op = some (.b (decide p))) (hp : ¬ p) (w : WD tb cf n N c (i + 1) ((d, .b false) :: S) h k K Q) : WD tb cf n N c i S h k (0 :: K) Q := by
  rw [decide_eq_false hp] at hs; exact WD.p' hi hd hf hw hs w
theorem WD.pET (hi : Nat.blt i (kops c).toList.length = true) (hd : (kop c i).dst = some d) (hf : fitS n (kops c) (kop c i) S = true) (hw : wantS (kops c) (kop c i) S = true) (hs : evP tb (evRS ((kop c i).looksAt (kops c)) S) (kop c i).op = some (.b (a == b))) (hp : a = b) (w : WD tb cf n N c (i + 1) ((d, .b true) :: S) h k K Q) : WD tb cf n N c i S h k (0 :: K) Q := by
  rw [beq_iff_eq.2 hp] at hs; exact WD.p' hi hd hf hw hs w
theorem WD.pEF (hi : Nat.blt i (kops c).toList.length = true) (hd : (kop c i).dst = some d) (hf : fitS n (kops c) (kop c i) S = true) (hw : wantS (kops c) (kop c i) S = true) (hs : evP tb (evRS ((kop c i).looksAt (kops c)) S) (kop c i).op = some (.b (a == b))) (hp : ¬ a = b) (w : WD tb cf n N c (i + 1) ((d, .b false) :: S) h k K Q) : WD tb cf n N c i S h k (0 :: K) Q := by
  rw [beq_eq_false_iff_ne.2 hp] at hs; exact WD.p' hi hd hf hw hs w
theorem WD.pNT (hi : Nat.blt i (kops c).toList.length = true) (hd : (kop c i).dst = some d) (hf : fitS n (kops c) (kop c i) S = true) (hw : wantS (kops c) (kop c i) S = true) (hs : evP tb (evRS ((kop c i).looksAt (kops c)) S) (kop c i).op = some (.b (a != b))) (hp : ¬ a = b) (w : WD tb cf n N c (i + 1) ((d, .b true) :: S) h k K Q) : WD tb cf n N c i S h k (0 :: K) Q := by
  rw [bne_iff_ne.2 hp] at hs; exact WD.p' hi hd hf hw hs w
theorem WD.pNF (hi : Nat.blt i (kops c).toList.length = true) (hd : (kop c i).dst = some d) (hf : fitS n (kops c) (kop c i) S = true) (hw : wantS (kops c) (kop c i) S = true) (hs : evP tb (evRS ((kop c i).looksAt (kops c)) S) (kop c i).op = some (.b (a != b))) (hp : a = b) (w : WD tb cf n N c (i + 1) ((d, .b false) :: S) h k K Q) : WD tb cf n N c i S h k (0 :: K) Q := by
  rw [bne_eq_false_iff_eq.2 hp] at hs; exact WD.p' hi hd hf hw hs w
theorem WD.pDS (hi : Nat.blt i (kops c).toList.length = true) (hd : (kop c i).dst = some d) (hf : fitS n (kops c) (kop c i) S = true) (hw : wantS (kops c) (kop c i) S = true) (hs : evP tb (evRS ((kop c i).looksAt (kops c)) S) (kop c i).op = some (.b (decide p)))
    (w1 : p → WD tb cf n N c (i + 1) ((d, .b true) :: S) h k K Q) (w2 : ¬ p → WD tb cf n N c (i + 1) ((d, .b false) :: S) h k K Q) : WD tb cf n N c i S h k (0 :: K) Q := by
  by_cases hp : p
  · exact WD.pDT hi hd hf hw hs hp (w1 hp)
  · exact WD.pDF hi hd hf hw hs hp (w2 hp)
theorem WD.pES (hi : Nat.blt i (kops c).toList.length = true) (hd : (kop c i).dst = some d) (hf : fitS n (kops c) (kop c i) S = true) (hw : wantS (kops c) (kop c i) S = true) (hs : evP tb (evRS ((kop c i).looksAt (kops c)) S) (kop c i).op = some (.b (a == b)))
    (w1 : a = b → WD tb cf n N c (i + 1) ((d, .b true) :: S) h k K Q) (w2 : ¬ a = b → WD tb cf n N c (i + 1) ((d, .b false) :: S) h k K Q) : WD tb cf n N c i S h k (0 :: K) Q := by
  by_cases hp : a = b
  · exact WD.pET hi hd hf hw hs hp (w1 hp)
  · exact WD.pEF hi hd hf hw hs hp (w2 hp)
theorem WD.pNS (hi : Nat.blt i (kops c).toList.length = true) (hd : (kop c i).dst = some d) (hf : fitS n (kops c) (kop c i) S = true) (hw : wantS (kops c) (kop c i) S = true) (hs : evP tb (evRS ((kop c i).looksAt (kops c)) S) (kop c i).op = some (.b (a != b)))
    (w1 : ¬ a = b → WD tb cf n N c (i + 1) ((d, .b true) :: S) h k K Q) (w2 : a = b → WD tb cf n N c (i + 1) ((d, .b false) :: S) h k K Q) : WD tb cf n N c i S h k (0 :: K) Q := by
  by_cases hp : a = b
  · exact WD.pNF hi hd hf hw hs hp (w2 hp)
  · exact WD.pNT hi hd hf hw hs hp (w1 hp)
end

def over2 {α : Type} (xs : List α) (k : Nat) (ys : List α) : List α := xs.take k ++ ys ++ xs.drop (k + ys.length)
theorem cellsR_over {α : Type} {R : Rw α} {xs ys : List α} {k : Nat} (h : k + ys.length ≤ xs.length) : setL (cellsR R xs) (k * R.z) (cellsR R ys) = cellsR R (over2 xs k ys) := by
  rw [setL_eq _ _ _ (by rw [cellsR_len, cellsR_len, ← Nat.add_mul]; exact Nat.mul_le_mul_right _ h), cellsR_take, cellsR_len, ← Nat.add_mul, cellsR_drop, over2, cellsR_app, cellsR_app]
section
variable {P : Program} {tb : Tb P} {cf : CF} {h h1 : LH} {e : Operand → Option V} {op : Op}
theorem evH_copyR {T U E E' : TypeId} {x y : Operand} {l o len cap l2 o2 m c2 z k : Nat} {q q2 : Bool} {cs c : List V} (hop : op = .call ⟨.builtin .copy, #[x, y], #[T, U]⟩) (hx : e x = some (.sl (some (l, o)) len cap q)) (hy : e y = some (.sl (some (l2, o2)) m c2 q2))
    (hu : tb.und T = some (.slice E)) (hz : tb.sz E = some z) (hk : Nat.min m len = k) (h0 : 0 < k) (hz0 : 0 < z) (hc : cellsAt h l2 o2 (k * z) = some cs) (hg : h.get l = some ⟨c, E', true⟩) (hr : h.ro ≤ l) (hcl : cs.all isCell = true) (hcn : cs.length = k * z) (ho : o + k * z ≤ c.length) :
    evH tb e h op = some (.i .i64 k, h.upd l (some ⟨setL c o cs, E', true⟩)) := by
  subst hop
  have hl : evLs e [x, y] = some [.sl (some (l, o)) len cap q, .sl (some (l2, o2)) m c2 q2] := by simp only [evLs, hx, hy]
  have hf : firstV h z k (.sl (some (l2, o2)) m c2 q2) = some cs := by simp only [firstV]; rw [if_neg (by omega)]; exact hc
  have hne : cs ≠ [] := fun e => by rw [e] at hcn; have := Nat.mul_pos h0 hz0; simp at hcn; omega
  simp only [evH, hl, cpV, hu, hz, lnV, hk, hf, stL_put cs h l o c E' hg hr hcl (by rw [hcn]; exact ho) hne]
theorem all_cells {α : Type} (R : Rw α) (hR : ∀ a, (R.enc a).all isCell = true) (xs : List α) : (cellsR R xs).all isCell = true := by
  rw [List.all_eq_true]
  intro v hv
  obtain ⟨l, hl, hvl⟩ := List.mem_flatten.1 hv
  obtain ⟨a, _, rfl⟩ := List.mem_map.1 hl
  exact List.all_eq_true.1 (hR a) v hvl
theorem allI (k : IntKind) (xs : List Int) : (cellsR (rwI k) xs).all isCell = true := all_cells _ (fun _ => rfl) xs
/-- A row appended to an empty one that is not nil. -/
theorem evH_append_empty {T U E : TypeId} {x y : Operand} {l o l2 o2 n c2 z by_ : Nat} {q : Bool} {new : List V} {zv : V} (hop : op = .call ⟨.builtin .append, #[x, y], #[T, U]⟩) (hx : e x = some (.sl (some (l, o)) 0 0 false))
    (hy : e y = some (.sl (some (l2, o2)) n c2 q)) (hu : tb.und T = some (.slice E)) (hz : tb.sz E = some z) (hb : tb.bytes E = some by_) (hv : tb.zero E = some zv) (hni : noInt tb U = true) (hzl : (vcells zv).length = z) (h0 : 0 < by_)
    (hn : 0 < n) (hc : cellsAt h l2 o2 (n * z) = some new) (hnl : new.length = n * z) (hbb : n * by_ ≤ 140737488355328) :
    evH tb e h op = some (.sl (some (h.next, 0)) n n true, h.new ⟨new, E, true⟩) := by
  subst hop
  have hl : evLs e [x, y] = some [.sl (some (l, o)) 0 0 false, .sl (some (l2, o2)) n c2 q] := by simp only [evLs, hx, hy]
  have hf : firstV h z n (.sl (some (l2, o2)) n c2 q) = some new := by simp only [firstV]; rw [if_neg (by omega)]; exact hc
  have h8 : firstV h z 0 (.sl (some (l, o)) 0 0 false) = some [] := rfl
  simp only [evH, hl, appV, hu, hz, hb, hv, lnV, hni, hzl, h0, decide_true, Bool.and_self, if_true, hf, h8, List.nil_append, Nat.zero_add]
  rw [if_neg (by omega), if_pos hbb, if_pos (by simp [hnl])]
end
theorem cellsAt_row {α : Type} {R : Rw α} {M : List (Option Blk)} {l m : Nat} {xs : List α} {E : TypeId} {q : Bool} (hb : (mem 0 M).get l = some ⟨cellsR R xs, E, q⟩) (hm : m = xs.length * R.z) : cellsAt (mem 0 M) l 0 m = some (cellsR R xs) :=
  cellsAt_all hb (by rw [cellsR_len, hm])
theorem cellsI_over {K : IntKind} {xs ys : List Int} {k : Nat} (h : k + ys.length ≤ xs.length) : setL (cellsR (rwI K) xs) k (cellsR (rwI K) ys) = cellsR (rwI K) (over2 xs k ys) := by
  have := cellsR_over (R := rwI K) h
  simpa [rwI] using this

/-- What an operation does, a call being quiet. -/
def kindQ {P : Program} (tb : Tb P) (o : Oper) : Nat := match o.op with
  | .call ⟨.value _, _, _⟩ => 1
  | _ => kindOf tb o
section
variable {P : Program} {tb : Tb P} {cf : CF} {n N : Nat} {k : List Fm} {c : Code} {S : List (Nat × V)} {h h' : LH} {Q : Ex → T V → LH → Prop} {e : Operand → Option V} {op : Op} {g : FuncId} {vs vs' : List V} {v : V}
/-- Does a region call that function? -/
def hasF (g : FuncId) (ops : Array Oper) : Bool := ops.toList.any fun o => match o.op with
  | .call ⟨.value (.func f), _, _⟩ => f == g
  | _ => false
def lockH (h : LH) : LH := ⟨h.next, h.next, h.m⟩
theorem evQ_call (h0 : evP tb e op = none) (h1 : evR tb e h op = none) (h2 : evCall tb e op = some (g, vs)) (hl : tb.loud g = false) (hv : okB h.next v = true) : evQ tb (oneCall g vs (lockH h) v h' cf) e h op = some v := by
  have : oneCall g vs (lockH h) v h' cf g vs ⟨h.next, h.next, h.m⟩ = some (v, h') := by unfold oneCall; rw [if_pos ⟨rfl, rfl, rfl⟩]
  simp only [evQ, h0, h1, h2, hl, Bool.false_eq_true, if_false, this, hv, if_true]
theorem WS.pdrawQ {M MM : List (Option Blk)} (L : List Nat) (hg : FM P g vs M (fun u M' => u = v ∧ M' = M)) (_hh : hasF g (kops c) = true) (hm : P.follows .mixedOrders = true) (hk : kind c = 6) (hst : statB (kops c) = true) (hc : drawOK (kops c) ((kops c).toList.map (kindQ tb)) = true)
    (hvs : mapL (fun i => L.getD i 0) vs = vs') (hok : okL M.length vs) (hp : embP (fun i => L.getD i 0) (lockH (mem 0 MM)) M.length 0 M) (ho : own2 (fun i => L.getD i 0) M = true) (hv : okV 0 v)
    (w : ∀ h', WD tb (oneCall g vs' (lockH (mem 0 MM)) v h' noCalls) n N c 0 S (mem 0 MM) k ((kops c).toList.map (kindQ tb)) Q) : WS P n N (.c c :: k) (slt S) (mem 0 MM) Q := by
  have E : Emb (fun i => L.getD i 0) (mem 0 M) (lockH (mem 0 MM)) := emb_mem (Nat.zero_le _) hp ho
  subst hvs
  have F := FQ.emb hg E hok
  have F' : FC P g (mapL (fun i => L.getD i 0) vs) (lockH (mem 0 MM)) v (plug (fun i => L.getD i 0) (mem 0 M) (lockH (mem 0 MM)) (mem 0 M)) := FQ.fc (F.mono fun u H' ⟨v1, h1, ⟨M', e1, e2, e3⟩, eu, eh⟩ => by
    subst e1; subst e2; subst e3; subst eh
    exact ⟨by rw [eu, mapV_plain _ _ hv], rfl⟩)
  exact WS.pdrawC hm (good_one F' good_none) hk hst (w _) hc
end

section
variable {P : Program} {tb : Tb P} {cf : CF} {n N : Nat} {k : List Fm} {c : Code} {S : List (Nat × V)} {h h' h2' : LH} {Q : Ex → T V → LH → Prop} {e : Operand → Option V} {op : Op} {g g2 : FuncId} {vs vs' vs2 vs2' : List V} {v v2 : V}
theorem FC.locked {M MM : List (Option Blk)} (L : List Nat) (hg : FM P g vs M (fun u M' => u = v ∧ M' = M)) (hok : okL M.length vs) (hp : embP (fun i => L.getD i 0) (lockH (mem 0 MM)) M.length 0 M) (ho : own2 (fun i => L.getD i 0) M = true) (hv : okV 0 v) :
    FC P g (mapL (fun i => L.getD i 0) vs) (lockH (mem 0 MM)) v (plug (fun i => L.getD i 0) (mem 0 M) (lockH (mem 0 MM)) (mem 0 M)) := by
  have E : Emb (fun i => L.getD i 0) (mem 0 M) (lockH (mem 0 MM)) := emb_mem (Nat.zero_le _) hp ho
  have F := FQ.emb hg E hok
  exact FQ.fc (F.mono fun u H' ⟨v1, h1, ⟨M', e1, e2, e3⟩, eu, eh⟩ => by
    subst e1; subst e2; subst e3; subst eh
    exact ⟨by rw [eu, mapV_plain _ _ hv], rfl⟩)
theorem evQ_call2 (h0 : evP tb e op = none) (h1 : evR tb e h op = none) (hc : evCall tb e op = some (g2, vs2)) (hl : tb.loud g2 = false) (hv : okB h.next v2 = true) (hs : g2 = g → vs2 = vs → v = v2) :
    evQ tb (oneCall g vs (lockH h) v h' (oneCall g2 vs2 (lockH h) v2 h2' cf)) e h op = some v2 := by
  have : ∃ x, oneCall g vs (lockH h) v h' (oneCall g2 vs2 (lockH h) v2 h2' cf) g2 vs2 ⟨h.next, h.next, h.m⟩ = some (v2, x) := by
    unfold oneCall
    by_cases hh : g2 = g ∧ vs2 = vs
    · obtain ⟨rfl, rfl⟩ := hh
      rw [if_pos ⟨rfl, rfl, rfl⟩, hs rfl rfl]; exact ⟨_, rfl⟩
    · rw [if_neg (fun x => hh ⟨x.1, x.2.1⟩), if_pos ⟨rfl, rfl, rfl⟩]; exact ⟨_, rfl⟩
  obtain ⟨x, hx⟩ := this
  simp only [evQ, h0, h1, hc, hl, Bool.false_eq_true, if_false, hx, hv, if_true]
theorem WS.pdrawQ2 {M M2 MM : List (Option Blk)} (L L2 : List Nat) (hg : FM P g vs M (fun u M' => u = v ∧ M' = M)) (hg2 : FM P g2 vs2 M2 (fun u M' => u = v2 ∧ M' = M2)) (_hh : (hasF g (kops c) && hasF g2 (kops c)) = true) (hm : P.follows .mixedOrders = true) (hk : kind c = 6) (hst : statB (kops c) = true) (hc : drawOK (kops c) ((kops c).toList.map (kindQ tb)) = true)
    (hvs : mapL (fun i => L.getD i 0) vs = vs') (hok : okL M.length vs) (hp : embP (fun i => L.getD i 0) (lockH (mem 0 MM)) M.length 0 M) (ho : own2 (fun i => L.getD i 0) M = true) (hv : okV 0 v)
    (hvs2 : mapL (fun i => L2.getD i 0) vs2 = vs2') (hok2 : okL M2.length vs2) (hp2 : embP (fun i => L2.getD i 0) (lockH (mem 0 MM)) M2.length 0 M2) (ho2 : own2 (fun i => L2.getD i 0) M2 = true) (hv2 : okV 0 v2)
    (w : ∀ h' h2', WD tb (oneCall g vs' (lockH (mem 0 MM)) v h' (oneCall g2 vs2' (lockH (mem 0 MM)) v2 h2' noCalls)) n N c 0 S (mem 0 MM) k ((kops c).toList.map (kindQ tb)) Q) : WS P n N (.c c :: k) (slt S) (mem 0 MM) Q := by
  subst hvs; subst hvs2
  exact WS.pdrawC hm (good_one (FC.locked L hg hok hp ho hv) (good_one (FC.locked L2 hg2 hok2 hp2 ho2 hv2) good_none)) hk hst (w _ _) hc
end

section
variable {P : Program} {tb : Tb P} {cf : CF} {n N : Nat} {k : List Fm} {c : Code} {S : List (Nat × V)} {h h1 : LH} {Q : Ex → T V → LH → Prop} {e : Operand → Option V} {op : Op} {g : FuncId} {vs vs' : List V} {v : V} {K : List Nat} {i d : Nat}
theorem FC.explicit {M M1 MM : List (Option Blk)} (L : List Nat) (hg : FM P g vs M (fun u M' => u = v ∧ M' = M1)) (hok : okL M.length vs) (hL : Nat.beq L.length M.length = true) (hp : embP (fun i => L.getD i 0) (mem 0 MM) M.length 0 M) (ho : own2 (fun i => L.getD i 0) M = true) :
    FC P g (mapL (fun i => L.getD i 0) vs) (mem 0 MM) (mapV (over (fun i => L.getD i 0) M.length MM.length) v) (mem 0 (plugL MM.length L M M1 MM)) := by
  have hL := Nat.eq_of_beq_eq_true hL
  have E : Emb (fun i => L.getD i 0) (mem 0 M) (mem 0 MM) := emb_mem (Nat.zero_le _) hp ho
  intro B W r w hok' R
  refine ((FQ.next hg).emb E hok B W r w hok' R).mono ?_
  rintro e w' ⟨u, v', h', hu, ⟨v1, h1, ⟨⟨M', rfl, rfl, rfl⟩, hn⟩, rfl, rfl⟩, r', hv, hx, hok2, R', K⟩
  have Sm := plug_mem E hL hn
  refine ⟨u, hu, r', hv, hx, ?_, Sm.relH R', ⟨by rw [← Sm.ro]; exact K.ro, by rw [← Sm.next]; exact K.next, fun l hl => by rw [← Sm.get]; exact K.get l hl⟩⟩
  rw [← Sm.next]; exact hok2
theorem evE_call (h3 : evH tb e h op = none) (hc : evCall tb e op = some (g, vs)) : evE tb (oneCall g vs h v h1 cf) e h op = some (v, h1) := by
  have : oneCall g vs h v h1 cf g vs h = some (v, h1) := by unfold oneCall; rw [if_pos ⟨rfl, rfl, rfl⟩]
  simp only [evE, h3, hc, this]
theorem evQ_write (h0 : evP tb e op = none) (h2 : evR tb e h op = none) (hc : evCall tb e op = some (g, vs)) (hn : Nat.beq h.ro h.next = false) : evQ tb (oneCall g vs h v h1 noCalls) e h op = none := by
  have : oneCall g vs h v h1 noCalls g vs ⟨h.next, h.next, h.m⟩ = none := by
    unfold oneCall
    rw [if_neg (fun x => by have := congrArg LH.ro x.2.2; simp only at this; rw [← this, Nat.beq_refl] at hn; cases hn)]
    rfl
  simp only [evQ, h0, h2, hc, this]
  split <;> rfl
theorem WD.ecall (hi : Nat.blt i (kops c).toList.length = true) (hd : (kop c i).dst = some d) (hf : fitS n (kops c) (kop c i) S = true) (hw : wantS (kops c) (kop c i) S = true) (h0 : evP tb (evRS ((kop c i).looksAt (kops c)) S) (kop c i).op = none) (h2 : evR tb (evRS ((kop c i).looksAt (kops c)) S) h (kop c i).op = none)
    (h3 : evH tb (evRS ((kop c i).looksAt (kops c)) S) h (kop c i).op = none) (hc : evCall tb (evRS ((kop c i).looksAt (kops c)) S) (kop c i).op = some (g, vs)) (hn : Nat.beq h.ro h.next = false)
    (w : WD tb (oneCall g vs h v h1 noCalls) n N c (i + 1) ((d, v) :: S) h1 k K Q) : WD tb (oneCall g vs h v h1 noCalls) n N c i S h k (2 :: K) Q :=
  WD.e' hi hd hf hw (evQ_write h0 h2 hc hn) (evE_call h3 hc) w
theorem WS.pdrawE {M M1 MM : List (Option Blk)} (L : List Nat) (hg : FM P g vs M (fun u M' => u = v ∧ M' = M1)) (_hh : hasF g (kops c) = true) (hm : P.follows .mixedOrders = true) (hk : kind c = 6) (hst : statB (kops c) = true) (hc : drawOK (kops c) ((kops c).toList.map (kindOf tb)) = true)
    (hvs : mapL (fun i => L.getD i 0) vs = vs') (hok : okL M.length vs) (hL : Nat.beq L.length M.length = true) (hp : embP (fun i => L.getD i 0) (mem 0 MM) M.length 0 M) (ho : own2 (fun i => L.getD i 0) M = true)
    (w : WD tb (oneCall g vs' (mem 0 MM) (mapV (over (fun i => L.getD i 0) M.length MM.length) v) (mem 0 (plugL MM.length L M M1 MM)) noCalls) n N c 0 S (mem 0 MM) k ((kops c).toList.map (kindOf tb)) Q) : WS P n N (.c c :: k) (slt S) (mem 0 MM) Q := by
  subst hvs
  exact WS.pdrawC hm (good_one (FC.explicit L hg hok hL hp ho) good_none) hk hst w hc
end

section
variable {P : Program} {n N : Nat} {k : List Fm} {c : Code} {t : T V} {h : LH} {Q : Ex → T V → LH → Prop}
/-- Does a region set that slot? -/
def hasD (ops : Array Oper) (d : Nat) : Bool := ops.toList.any fun o => match o.dst with | some e => Nat.beq e d | none => false
theorem WS.hasD (d : Nat) (_h : hasD (kops c) d = true) (w : WS P n N (.c c :: k) t h Q) : WS P n N (.c c :: k) t h Q := w
end

/-- What an operation does: 4 reads, and may read later; 3 makes and does no more. -/
def kindF {P : Program} (tb : Tb P) (o : Oper) : Nat := match o.op with
  | .load _ _ => 4
  | .call ⟨.value _, _, _⟩ => 4
  | .alloc _ => 3
  | .box _ _ => 3
  | .buildSlice _ _ _ => 3
  | _ => kindOf tb o
theorem Grow.new (a : LH) (b : Blk) : Grow a (a.new b) := ⟨Nat.le_succ _, fun l x hl h => by
  show (a.m.put a.next (some b)).get l = some x
  rw [T.get_put, if_neg (Nat.ne_of_lt hl)]; exact h⟩
theorem Grow.lists {M M2 : List (Option Blk)} (h : M2.take M.length = M) : Grow (mem 0 M) (mem 0 M2) := by
  have hl : M.length ≤ M2.length := by have := congrArg List.length h; rw [List.length_take] at this; omega
  refine ⟨hl, fun l x hlt hx => ?_⟩
  have e : M2[l]? = M[l]? := by
    conv => rhs; rw [← h]
    rw [List.getElem?_take, if_pos (show l < M.length from hlt)]
  rw [mem_get] at hx ⊢
  rw [e]; exact hx
def wfH (h : LH) : Prop := ∀ l x, h.get l = some x → l < h.next
theorem mem_wf (ro : Nat) (M : List (Option Blk)) : wfH (mem ro M) := fun l x hx => by
  have := mem_get_some hx
  exact (List.getElem?_eq_some_iff.1 this).1
section
variable {P : Program} {tb : Tb P} {cf : CF} {n N : Nat} {k : List Fm} {c : Code} {S : List (Nat × V)} {h h1 h2 h' : LH} {Q : Ex → T V → LH → Prop} {K : List Nat} {i d : Nat} {e : Operand → Option V} {op : Op} {g : FuncId} {vs vs' : List V} {v : V}
theorem cellsAt_grow {l o m : Nat} {cs : List V} (w : wfH h) (G : Grow h h2) (hc : cellsAt h l o m = some cs) : cellsAt h2 l o m = some cs := by
  unfold cellsAt at hc ⊢
  split at hc
  · next b hb => rw [G.get l b (w l b hb) hb]; exact hc
  · cases hc
theorem ld_grow {T : TypeId} {x : Operand} (w : wfH h) (G : Grow h h2) (hop : op = .load T x) (hr : evR tb e h op = some v) : evR tb e h2 op = some v := by
  subst hop
  simp only [evR] at hr ⊢
  split at hr
  · next u hu =>
    unfold ldV at hr ⊢
    split at hr
    · split at hr
      · split at hr
        · obtain ⟨cs, hcs, e2⟩ := Option.map_eq_some_iff.1 hr
          rw [cellsAt_grow w G hcs]; simp [e2]
        · cases hr
      · split at hr
        · next b hb => rw [G.get _ b (w _ b hb) hb]; exact hr
        · cases hr
      · cases hr
    · cases hr
  · cases hr
theorem WD.fR {T : TypeId} {x : Operand} (hi : Nat.blt i (kops c).toList.length = true) (hd : (kop c i).dst = some d) (hf : fitS n (kops c) (kop c i) S = true) (hw : wantS (kops c) (kop c i) S = true) (hop : (kop c i).op = .load T x)
    (h1 : evR tb (evRS ((kop c i).looksAt (kops c)) S) h (kop c i).op = some v) (w0 : wfH h) (w : WD tb cf n N c (i + 1) ((d, v) :: S) h k K Q) : WD tb cf n N c i S h k (4 :: K) Q :=
  WD.f' hi hd hf hw (fun h2 G => evQ_R (by rw [hop]; rfl) (ld_grow w0 G hop h1)) w
theorem WD.fRA {T : TypeId} {x : Operand} {l l' : List V} (hi : Nat.blt i (kops c).toList.length = true) (hd : (kop c i).dst = some d) (hf : fitS n (kops c) (kop c i) S = true) (hw : wantS (kops c) (kop c i) S = true) (hop : (kop c i).op = .load T x)
    (h1 : evR tb (evRS ((kop c i).looksAt (kops c)) S) h (kop c i).op = some (.agg l)) (ho : l = l') (w0 : wfH h) (w : WD tb cf n N c (i + 1) ((d, .agg l') :: S) h k K Q) : WD tb cf n N c i S h k (4 :: K) Q := by
  subst ho; exact WD.fR hi hd hf hw hop h1 w0 w
theorem WD.e3 {b : Blk} (hi : Nat.blt i (kops c).toList.length = true) (hd : (kop c i).dst = some d) (hf : fitS n (kops c) (kop c i) S = true) (hw : wantS (kops c) (kop c i) S = true)
    (hq : evQ tb cf (evRS ((kop c i).looksAt (kops c)) S) h (kop c i).op = none) (hs : evE tb cf (evRS ((kop c i).looksAt (kops c)) S) h (kop c i).op = some (v, h.new b))
    (w : WD tb cf n N c (i + 1) ((d, v) :: S) (h.new b) k K Q) : WD tb cf n N c i S h k (3 :: K) Q := WD.e3' hi hd hf hw hq hs (Grow.new _ _) w
theorem WD.no4 (hi : Nat.blt i (kops c).toList.length = true) (hd : (kop c i).dst = some d) (hf : fitS n (kops c) (kop c i) S = true) (hw : wantS (kops c) (kop c i) S = false)
    (w : WD tb cf n N c (i + 1) ((d, .tup []) :: S) h k K Q) : WD tb cf n N c i S h k (4 :: K) Q := by
  obtain ⟨D, t', h', g1, g2, g3, g5, g4⟩ := w
  refine ⟨(.tup [], none) :: D, t', h', ?_, fun j => g2 (j + 1), fun E hs' ms p F hl hst hdr hx hfl => ?_, g5, g4⟩
  · rw [drop_kop hi]
    simp only [lexRun, fitS_eq, hf, if_true, wantS_eq, hw, setO_slt, g1, hd, setS]
  · rw [drop_kop hi]
    simp only [stat1, Bool.and_eq_true] at hst
    simp only [chk, wantS_eq, hw, Bool.true_and, setO_slt, hd, setS]
    exact g3 E hs' ms p F hl hst.2 hdr hx hfl
open Classical in
/-- One quiet call, known to answer so in every greater memory. -/
noncomputable def growCall (g : FuncId) (vs : List V) (h : LH) (v : V) (f : LH → LH) (cf : CF) : CF := fun g' vs' h0 => if g' = g ∧ vs' = vs ∧ Grow h h0 then some (v, f h0) else cf g' vs' h0
theorem good_grow {f : LH → LH} (hf : ∀ h0, Grow h h0 → FC P g vs h0 v (f h0)) (hg : Good P cf) : Good P (growCall g vs h v f cf) := fun g' vs' h0 v0 h0' hc => by
  unfold growCall at hc
  split at hc
  · next e =>
    obtain ⟨rfl, rfl, hG⟩ := e
    simp only [Option.some.injEq, Prod.mk.injEq] at hc
    obtain ⟨rfl, rfl⟩ := hc
    exact hf _ hG
  · exact hg _ _ _ _ _ hc
theorem Emb.grow {s : Nat → Nat} {a H H' : LH} (E : Emb s a H) (G : Grow H H') (hn : ∀ l b, a.get l = some b → b.own = false) (w : wfH H) : Emb s a H' :=
  ⟨fun l hl => Nat.lt_of_lt_of_le (E.lt l hl) G.next, E.roLe, E.wf, fun l b hb ho => (by rw [hn l b hb] at ho; cases ho), fun l b hb ho j v hj => (by
    obtain ⟨b', h1, h2⟩ := E.ro l b hb ho j v hj
    exact ⟨b', G.get _ _ (w _ _ h1) h1, h2⟩), fun l l' b b' hb ho => (by rw [hn l b hb] at ho; cases ho)⟩
def roAll (M : List (Option Blk)) : Bool := M.all fun b => !isOwn b
theorem WD.fC {f : LH → LH} {h0 : LH} (hi : Nat.blt i (kops c).toList.length = true) (hd : (kop c i).dst = some d) (hf : fitS n (kops c) (kop c i) S = true) (hw : wantS (kops c) (kop c i) S = true)
    (h1 : evP tb (evRS ((kop c i).looksAt (kops c)) S) (kop c i).op = none) (h2 : ∀ x, evR tb (evRS ((kop c i).looksAt (kops c)) S) x (kop c i).op = none) (hc : evCall tb (evRS ((kop c i).looksAt (kops c)) S) (kop c i).op = some (g, vs)) (hl : tb.loud g = false) (hv : ∀ m, okB m v = true) (hG : Grow h0 h)
    (w : WD tb (growCall g vs h0 v f cf) n N c (i + 1) ((d, v) :: S) h k K Q) : WD tb (growCall g vs h0 v f cf) n N c i S h k (4 :: K) Q :=
  WD.f' hi hd hf hw (fun x G => by
    have : growCall g vs h0 v f cf g vs ⟨x.next, x.next, x.m⟩ = some (v, f ⟨x.next, x.next, x.m⟩) := by
      unfold growCall; rw [if_pos ⟨rfl, rfl, (hG.trans G).next, (hG.trans G).get⟩]
    simp only [evQ, h1, h2, hc, hl, Bool.false_eq_true, if_false, this, hv, if_true]) w
theorem WS.pdrawF {M MM : List (Option Blk)} (L : List Nat) (hg : FM P g vs M (fun u M' => u = v ∧ M' = M)) (_hh : hasF g (kops c) = true) (hm : P.follows .mixedOrders = true) (hk : kind c = 6) (hst : statB (kops c) = true) (hc : drawOK (kops c) ((kops c).toList.map (kindF tb)) = true)
    (hvs : mapL (fun i => L.getD i 0) vs = vs') (hok : okL M.length vs) (hr : roAll M = true) (hp : embP (fun i => L.getD i 0) (mem 0 MM) M.length 0 M) (ho : own2 (fun i => L.getD i 0) M = true) (hv : okV 0 v)
    (w : ∀ f, WD tb (growCall g vs' (mem 0 MM) v f noCalls) n N c 0 S (mem 0 MM) k ((kops c).toList.map (kindF tb)) Q) : WS P n N (.c c :: k) (slt S) (mem 0 MM) Q := by
  subst hvs
  have E : Emb (fun i => L.getD i 0) (mem 0 M) (mem 0 MM) := emb_mem (Nat.zero_le _) hp ho
  have hn : ∀ l b, (mem 0 M).get l = some b → b.own = false := fun l b hb => by
    have h1 := mem_get_some hb
    have h2 := List.all_eq_true.1 hr _ (List.mem_of_getElem? h1)
    cases hbo : b.own with
    | false => rfl
    | true =>
      obtain ⟨c, e, o⟩ := b
      simp only at hbo
      subst hbo
      simp [isOwn] at h2
  refine WS.pdrawC hm (good_grow (f := fun h0 => plug (fun i => L.getD i 0) (mem 0 M) h0 (mem 0 M)) (fun h0 G => ?_) good_none) hk hst (w _) hc
  have F := FQ.emb hg (E.grow G hn (mem_wf 0 MM)) hok
  exact FQ.fc (F.mono fun u H' ⟨v1, h1, ⟨M', e1, e2, e3⟩, eu, eh⟩ => by
    subst e1; subst e2; subst e3; subst eh
    exact ⟨by rw [eu, mapV_plain _ _ hv], rfl⟩)
theorem WS.pdraw0 (hm : P.follows .mixedOrders = true) (hk : kind c = 6) (hst : statB (kops c) = true) (hc : drawOK (kops c) ((kops c).toList.map (kindF tb)) = true) (w : WD tb noCalls n N c 0 S h k ((kops c).toList.map (kindF tb)) Q) : WS P n N (.c c :: k) (slt S) h Q := WS.pdrawC hm good_none hk hst w hc
end

theorem nz : (∀ n : Nat, 0 + n = n) ∧ (∀ n : Nat, n + 0 = n) ∧ (∀ a b c : Nat, a + b + c = a + (b + c)) ∧ (∀ n : Nat, n * 1 = n) ∧ (∀ n : Nat, ((n : Int)).toNat = n) ∧ ((0 : Int).toNat = 0) ∧ (∀ n : Nat, 0 * n = 0) :=
  ⟨Nat.zero_add, Nat.add_zero, Nat.add_assoc, Nat.mul_one, Int.toNat_natCast, Int.toNat_zero, Nat.zero_mul⟩
theorem nl : (∀ (α : Type) (a : α) (l : List α) (h : 0 < (a :: l).length), (a :: l)[0]'h = a) ∧ (∀ (α : Type) (a : α) (l : List α) (i : Nat) (h : i + 1 < (a :: l).length), (a :: l)[i + 1]'h = l[i]'(Nat.lt_of_succ_lt_succ h)) ∧
    (∀ (α : Type) (l : List α) (i : Nat) (h : i < l.toArray.size), l.toArray[i]'h = l[i]'(by simpa using h)) :=
  ⟨fun _ _ _ _ => rfl, fun _ _ _ _ _ => rfl, fun _ _ _ _ => rfl⟩
theorem ll : (∀ (α : Type) (a d : α) (l : List α), (a :: l).getD 0 d = a) ∧ (∀ (α : Type) (a d : α) (l : List α) (n : Nat), (a :: l).getD (n + 1) d = l.getD n d) ∧
    (∀ (α : Type) (a b : α) (l : List α), (a :: l).set 0 b = b :: l) ∧ (∀ (α : Type) (a b : α) (l : List α) (n : Nat), (a :: l).set (n + 1) b = a :: l.set n b) ∧
    (∀ (α : Type) (a : α) (l : List α), (a :: l).length = l.length + 1) ∧ (∀ α : Type, ([] : List α).length = 0) ∧
    (∀ (α β : Type) (f : α → β) (a : α) (l : List α), (a :: l).map f = f a :: l.map f) ∧ (∀ (α β : Type) (f : α → β), ([] : List α).map f = []) ∧
    (∀ (α : Type) (l : List α), l ++ [] = l) ∧ (∀ (α : Type) (a : α) (l m : List α), a :: l ++ m = a :: (l ++ m)) ∧ (∀ (α : Type) (m : List α), [] ++ m = m) :=
  ⟨fun _ _ _ _ => rfl, fun _ _ _ _ _ => rfl, fun _ _ _ _ => rfl, fun _ _ _ _ _ => rfl, fun _ _ _ => rfl, fun _ => rfl, fun _ _ _ _ _ => rfl, fun _ _ _ => rfl, fun _ l => List.append_nil l, fun _ _ _ _ => rfl, fun _ _ => rfl⟩

section
variable {P : Program} {n N : Nat} {k : List Fm} {S : List (Nat × V)} {h : LH} {Q : Ex → T V → LH → Prop}
theorem WS.close (d : Nat) {l o m c : Nat} (hk : lk S d = some (.sl (some (l, o)) m c true)) (w : ∀ e : Nat, WS P n N k (slt ((d, .sl (some (l, o)) m (c + e) false) :: S)) h Q) : WS P n N k (slt S) h Q := by
  intro B W r a w0 hN F R Qw hQ
  have g : ∀ j v, (slt ((d, V.sl (some (l, o)) m (c + (r l).2) false) :: S)).get j = some v → ∃ u, (slt S).get j = some u ∧ con r u = con r v ∧ (okV h.next u → okV h.next v) := by
    intro j v hv
    rw [lk_slt] at hv
    simp only [lk] at hv
    split at hv
    · next e =>
      obtain rfl := Option.some.inj hv
      have : j = d := by first | exact Nat.eq_of_beq_eq_true e | exact e | exact e.symm | exact (Nat.eq_of_beq_eq_true e).symm
      subst this
      exact ⟨.sl (some (l, o)) m c true, by rw [lk_slt]; exact hk, by simp [con], fun h => h⟩
    · exact ⟨v, by rw [lk_slt]; exact hv, rfl, fun h => h⟩
  refine w (r l).2 B W r a w0 hN ⟨F.size, F.defers, fun j v hv => ?_, fun j v hv => ?_⟩ R Qw hQ
  · obtain ⟨u, h1, h2, _⟩ := g j v hv
    rw [F.get j u h1, h2]
  · obtain ⟨u, h1, _, h3⟩ := g j v hv
    exact h3 (F.ok j u h1)
end

section
variable {P : Program} {tb : Tb P} {n N : Nat} {k : List Fm} {c : Code} {S : List (Nat × V)} {t : T V} {h h1 h2 : LH} {Q : Ex → T V → LH → Prop} {f : Nat} {L : Array Bool} {v v2 : V} {i j d d2 : Nat}
/-- What is left of a drawn region, some of it being done. -/
def WA (P : Program) (n N : Nat) (c : Code) (f : Nat) (L : Array Bool) (k : List Fm) (t : T V) (h : LH) (Q : Ex → T V → LH → Prop) : Prop := ∀ (B : Nat → Prop) (W : World) (r : Rho) (a : Act) (w : World), N ≤ h.next → RelF r h.next n t a → RelH P B W r h w → ∀ Qw : Exit → Act → World → Prop,
  (∀ x' t' h' r' a' w', Q x' t' h' → Ext N r r' → RelF r' h'.next n t' a' → RelH P B W r' h' w' → Keep0 N h h' → Qw (conX x') a' w') →
  wpAny P .any (kops c) (fun x a w => x = .normal ∧ wpK P k Qw .normal a w) f L a w

theorem WS.pany (hm : P.follows .mixedOrders = true) (hk : kind c = 6) (w : WA P n N c (kops c).toList.length (Array.replicate (kops c).toList.length false) k t h Q) : WS P n N (.c c :: k) t h Q := by
  unfold kind at hk
  split at hk <;> first | (cases hk; done) | skip
  next id ops =>
  intro B W r a wd hN F R Qw hQ
  show (Code.region id ops true).wp P (wpK P k Qw) a wd
  refine wp_mono (wp_region_any hm (w B W r a _ hN F R.drew Qw hQ)) ?_
  rintro e a w ⟨rfl, h⟩
  exact h

theorem WS.panyN (f : Nat) (hf : (kops c).toList.length = f) (hm : P.follows .mixedOrders = true) (hk : kind c = 6) (w : WA P n N c f (Array.replicate f false) k t h Q) : WS P n N (.c c :: k) t h Q := by
  subst hf; exact WS.pany hm hk w
theorem WA.done (hr : Region.ready .any (kops c) L = []) (w : WS P n N k t h Q) : WA P n N c f L k t h Q := fun B W r a wd hN F R Qw hQ =>
  wpAny_done hr ⟨rfl, w B W r a wd hN F R Qw hQ⟩ f

theorem kop_get (hi : Nat.blt i (kops c).toList.length = true) : (kops c)[i]? = some (kop c i) := by
  have hi : i < (kops c).toList.length := Nat.le_of_ble_eq_true hi
  unfold kop
  rw [List.getD_eq_getElem?_getD, List.getElem?_eq_getElem hi]
  simp
/-- One that looks at slots alone. -/
theorem WA.p (i : Nat) (hi : Nat.blt i (kops c).toList.length = true) (hd : (kop c i).dst = some d) (hs : Region.noSelect (kops c) = true) (hfr : Region.free .any (kops c) L i = true) (hr : (Region.ready .any (kops c) L).contains i = true)
    (hf : fitS n (kops c) (kop c i) S = true) (hw : wantS (kops c) (kop c i) S = true) (hv : evP tb (evS S) (kop c i).op = some v)
    (w : WA P n N c f (L.setIfInBounds i true) k (slt ((d, v) :: S)) h Q) : WA P n N c (f + 1) L k (slt S) h Q := by
  intro B W r a wd hN F R Qw hQ
  rw [← fitS_eq] at hf
  rw [← wantS_eq] at hw
  rw [← evO_slt] at hv
  have ho := evP_sound (P := P) (o := kop c i) tb (holds_of F) hv
  refine wpAny_take (kop_get hi) hs hfr hr (fun c a w h => ?_) (.inl ⟨by rw [wantV_eq F _ _ (fitK_know hf), hw], fun w => (ho w).1⟩) ?_
  · cases h.1
  · have F2 := F.put (fitK_fits hf) (ho wd).2
    rw [hd, setO_slt] at F2
    rw [hd]
    exact w B W r _ wd hN F2 R Qw hQ
/-- One whose guard says no. -/
theorem WA.no (i : Nat) (hi : Nat.blt i (kops c).toList.length = true) (hd : (kop c i).dst = some d) (hs : Region.noSelect (kops c) = true) (hfr : Region.free .any (kops c) L i = true) (hr : (Region.ready .any (kops c) L).contains i = true)
    (hf : fitS n (kops c) (kop c i) S = true) (hw : wantS (kops c) (kop c i) S = false)
    (w : WA P n N c f (L.setIfInBounds i true) k (slt ((d, .tup []) :: S)) h Q) : WA P n N c (f + 1) L k (slt S) h Q := by
  intro B W r a wd hN F R Qw hQ
  rw [← fitS_eq] at hf
  rw [← wantS_eq] at hw
  refine wpAny_take (kop_get hi) hs hfr hr (fun c a w h => ?_) (.inr ⟨by rw [wantV_eq F _ _ (fitK_know hf), hw], rfl⟩) ?_
  · cases h.1
  · have F2 := F.undef (fitK_fits hf)
    rw [hd, setO_slt] at F2
    rw [hd]
    exact w B W r _ wd hN F2 R Qw hQ

theorem WA.op (hi : Nat.blt i (kops c).toList.length = true) (hd : (kop c i).dst = some d) (hf : fitS n (kops c) (kop c i) S = true) (hw : wantS (kops c) (kop c i) S = true)
    (hs : step tb noCalls (evS S) h (kop c i).op = some (v, h1)) {B : Nat → Prop} {W : World} {r : Rho} {a : Act} {wd : World} (hN : N ≤ h.next) (F : RelF r h.next n (slt S) a) (R : RelH P B W r h wd) {Qw : Exit → Act → World → Prop}
    (hQ : ∀ x' t' h' r' a' w', Q x' t' h' → Ext N r r' → RelF r' h'.next n t' a' → RelH P B W r' h' w' → Keep0 N h h' → Qw (conX x') a' w')
    (w : WA P n N c f L k (slt ((d, v) :: S)) h1 Q) : wpOp P (kops c) (fun x a w => x = .normal ∧ wpK P k Qw .normal a w) i (wpAny P .any (kops c) (fun x a w => x = .normal ∧ wpK P k Qw .normal a w) f L) a wd := by
  rw [← fitS_eq] at hf
  rw [← wantS_eq] at hw
  rw [← evO_slt] at hs
  unfold wpOp
  rw [kop_get hi]
  simp only
  rw [wantV_eq F _ _ (fitK_know hf), hw, if_pos rfl]
  refine .inl (step_sound (good_none.SF B W) R (holds_of F) hs fun u w' ⟨r', hu, he, hok, R', K⟩ => ?_)
  subst hu
  have F2 := (F.ext he K.next).put (fitK_fits hf) hok
  rw [hd, setO_slt] at F2
  rw [hd]
  exact w B W r' _ w' (Nat.le_trans hN K.next) F2 R' Qw fun x t2 h2' r2 a2 w2 hq hx2 F2 R2 K2 => hQ x t2 h2' r2 a2 w2 hq ((he.mono hN).trans (Nat.le_refl _) hx2) F2 R2 (.head K K2)
/-- One that is ready alone. -/
theorem WA.e (i : Nat) (hr : Region.ready .any (kops c) L = [i]) (hi : Nat.blt i (kops c).toList.length = true) (hd : (kop c i).dst = some d) (hf : fitS n (kops c) (kop c i) S = true) (hw : wantS (kops c) (kop c i) S = true)
    (hs : step tb noCalls (evS S) h (kop c i).op = some (v, h1)) (w : WA P n N c f (L.setIfInBounds i true) k (slt ((d, v) :: S)) h1 Q) : WA P n N c (f + 1) L k (slt S) h Q := by
  intro B W r a wd hN F R Qw hQ
  refine wpAny_all hr (by simp) fun x hx => ?_
  obtain rfl := List.mem_singleton.1 hx
  exact WA.op hi hd hf hw hs hN F R hQ w
/-- Two that are ready, in either order. -/
theorem WA.e2 (i j : Nat) (hr : Region.ready .any (kops c) L = [i, j]) (hi : Nat.blt i (kops c).toList.length = true) (hj : Nat.blt j (kops c).toList.length = true) (hd : (kop c i).dst = some d) (hd2 : (kop c j).dst = some d2)
    (hf : fitS n (kops c) (kop c i) S = true) (hf2 : fitS n (kops c) (kop c j) S = true) (hw : wantS (kops c) (kop c i) S = true) (hw2 : wantS (kops c) (kop c j) S = true)
    (hs : step tb noCalls (evS S) h (kop c i).op = some (v, h1)) (hs2 : step tb noCalls (evS S) h (kop c j).op = some (v2, h2))
    (w : WA P n N c f (L.setIfInBounds i true) k (slt ((d, v) :: S)) h1 Q) (w2 : WA P n N c f (L.setIfInBounds j true) k (slt ((d2, v2) :: S)) h2 Q) : WA P n N c (f + 1) L k (slt S) h Q := by
  intro B W r a wd hN F R Qw hQ
  refine wpAny_all hr (by simp) fun x hx => ?_
  simp only [List.mem_cons, List.not_mem_nil, or_false] at hx
  rcases hx with rfl | rfl
  · exact WA.op hi hd hf hw hs hN F R hQ w
  · exact WA.op hj hd2 hf2 hw2 hs2 hN F R hQ w2
theorem WA.mem_eq {h2 : LH} (he : h = h2) (w : WA P n N c f L k t h2 Q) : WA P n N c f L k t h Q := by subst he; exact w
theorem WA.seen (v : List Nat) {MM M2 : List (Option Blk)} {S2 : List (Nat × V)} (hr : Region.ready .any (kops c) L = []) (V : SeenBy v N S MM S2 M2) (w : WS P n N k (slt S2) (mem 0 M2) Q) : WA P n N c f L k (slt S) (mem 0 MM) Q := WA.done hr (WS.seen v V w)
end

theorem allCell_eq : ∀ l : List V, allCell l = l.all isCell
  | [] => rfl
  | v :: l => by simp only [allCell, List.all_cons, allCell_eq l]
theorem allCell_R {α : Type} {R : Rw α} (hR : ∀ a, (R.enc a).all isCell = true) (xs : List α) : allCell (cellsR R xs) = true := (allCell_eq _).trans (all_cells R hR xs)
section
variable {P : Program} {tb : Tb P} {e : Operand → Option V} {T u : TypeId} {x y : Operand} {k : IntKind} {a b c : Int} {op : Op}
theorem evP_quoV (hop : op = .binOp .quo T x y u) (hx : e x = some (.i k a)) (hy : e y = some (.i k b)) (hc : a.tdiv b = c) (hb : ¬ b = 0) (h0 : lo k ≤ c) (h1 : c ≤ hi k) : evP tb e op = some (.i k c) := by
  subst hop
  simp only [evP, hx, hy, binV, intV, if_neg hb, hc, if_true, wr_id h0 h1]
theorem evP_remV (hop : op = .binOp .rem T x y u) (hx : e x = some (.i k a)) (hy : e y = some (.i k b)) (hc : a.tmod b = c) (hb : ¬ b = 0) : evP tb e op = some (.i k c) := by
  subst hop
  simp only [evP, hx, hy, binV, intV, if_neg hb, hc, if_true]
theorem evP_mulV (hop : op = .binOp .mul T x y u) (hx : e x = some (.i k a)) (hy : e y = some (.i k b)) (hc : a * b = c) (h0 : lo k ≤ c) (h1 : c ≤ hi k) : evP tb e op = some (.i k c) := by
  subst hop
  simp only [evP, hx, hy, binV, intV, hc, if_true, wr_id h0 h1]
theorem evP_addV (hop : op = .binOp .add T x y u) (hx : e x = some (.i k a)) (hy : e y = some (.i k b)) (hc : a + b = c) (h0 : lo k ≤ c) (h1 : c ≤ hi k) : evP tb e op = some (.i k c) := by
  subst hop
  simp only [evP, hx, hy, binV, intV, hc, if_true, wr_id h0 h1]
theorem evP_subV (hop : op = .binOp .sub T x y u) (hx : e x = some (.i k a)) (hy : e y = some (.i k b)) (hc : a - b = c) (h0 : lo k ≤ c) (h1 : c ≤ hi k) : evP tb e op = some (.i k c) := by
  subst hop
  simp only [evP, hx, hy, binV, intV, hc, if_true, wr_id h0 h1]
end

theorem jClo {p : Prop} (h : p := by repeat' (first | exact rfl | refine ⟨?_, ?_⟩ | exact lk_m rfl (hmp _ rfl) | exact lk_m rfl (hmp2 _ rfl) | exact hok _ (Nat.le_of_ble_eq_true rfl) | exact hok2 _ (Nat.le_of_ble_eq_true rfl) | exact lk_i rfl (by omega) | exact lk_sl rfl (by omega) (by omega) (by omega) | decide | omega)) : p := h
theorem jOb : (∀ n x, okV n (.b x) = True) ∧ (∀ n k x, okV n (.i k x) = True) ∧ (∀ n x, okV n (.s x) = True) ∧ (∀ n, okV n (.p none) = True) ∧ (∀ n l o, okV n (.p (some (l, o))) = (l < n)) ∧
    (∀ n a c q, okV n (.sl none a c q) = True) ∧ (∀ n l o a c q, okV n (.sl (some (l, o)) a c q) = (l < n)) ∧ (∀ n f cs, okV n (.fn f cs) = okL n cs) ∧ (∀ n, okV n .nf = True) ∧ (∀ n t v, okV n (.ifc t v) = okV n v) ∧ (∀ n, okV n .nif = True) ∧
    (∀ n l, okV n (.agg l) = okL n l) ∧ (∀ n l, okV n (.tup l) = okL n l) ∧ (∀ n, okL n [] = True) ∧ (∀ n v l, okL n (v :: l) = (okV n v ∧ okL n l)) := by simp [okV, okL]
theorem jMb : (∀ s x, mapV s (.b x) = .b x) ∧ (∀ s k x, mapV s (.i k x) = .i k x) ∧ (∀ s x, mapV s (.s x) = .s x) ∧ (∀ s, mapV s (.p none) = .p none) ∧ (∀ s l o, mapV s (.p (some (l, o))) = .p (some (s l, o))) ∧
    (∀ s a c q, mapV s (.sl none a c q) = .sl none a c q) ∧ (∀ s l o a c q, mapV s (.sl (some (l, o)) a c q) = .sl (some (s l, o)) a c q) ∧ (∀ s f cs, mapV s (.fn f cs) = .fn f (mapL s cs)) ∧ (∀ s, mapV s .nf = .nf) ∧ (∀ s t v, mapV s (.ifc t v) = .ifc t (mapV s v)) ∧ (∀ s, mapV s .nif = .nif) ∧
    (∀ s l, mapV s (.agg l) = .agg (mapL s l)) ∧ (∀ s l, mapV s (.tup l) = .tup (mapL s l)) ∧ (∀ s, mapL s [] = []) ∧ (∀ s v l, mapL s (v :: l) = mapV s v :: mapL s l) := by simp [mapV, mapL]
theorem jPg : (∀ N L M M' MM, plugL N L M M' MM = setsL (over (fun i => L.getD i 0) M.length N) L M M' MM ++ newsL (over (fun i => L.getD i 0) M.length N) M M') ∧
    (∀ s i L m M m' M' MM, setsL s (i :: L) (m :: M) (m' :: M') MM = setsL s L M M' (match isOwn m with | true => MM.set i (ownB s m') | false => MM)) ∧ (∀ s M M' MM, setsL s [] M M' MM = MM) ∧
    (∀ s a M b M', newsL s (a :: M) (b :: M') = newsL s M M') ∧ (∀ s M', newsL s [] M' = M'.map (ownB s)) ∧
    (∀ c e, isOwn (some ⟨c, e, true⟩) = true) ∧ (∀ c e, isOwn (some ⟨c, e, false⟩) = false) ∧ (isOwn none = false) ∧
    (∀ s c e, ownB s (some ⟨c, e, true⟩) = some ⟨mapL s c, e, true⟩) ∧ (∀ s c e, ownB s (some ⟨c, e, false⟩) = none) ∧ (∀ s, ownB s none = none) ∧ (∀ s n N j, over s n N j = if j < n then s j else N + (j - n)) :=
  ⟨fun _ _ _ _ _ => rfl, fun _ _ _ _ _ _ _ _ => rfl, fun _ _ _ _ => rfl, fun _ _ _ _ _ => rfl, fun _ _ => rfl, fun _ _ => rfl, fun _ _ => rfl, rfl, fun _ _ _ => rfl, fun _ _ _ => rfl, fun _ => rfl, fun _ _ _ _ => rfl⟩
theorem jEb : (∀ s H n i, embP s H n i [] = True) ∧ (∀ s H n i l, embP s H n i (none :: l) = (s i < H.next ∧ embP s H n (i + 1) l)) ∧
    (∀ s H n i c e l, embP s H n i (some ⟨c, e, true⟩ :: l) = (s i < H.next ∧ okL n c ∧ H.ro ≤ s i ∧ H.get (s i) = some ⟨mapL s c, e, true⟩ ∧ embP s H n (i + 1) l)) ∧
    (∀ s H n i c e l, embP s H n i (some ⟨c, e, false⟩ :: l) = (s i < H.next ∧ okL n c ∧ (∃ e o, H.get (s i) = some ⟨mapL s c, e, o⟩) ∧ embP s H n (i + 1) l)) ∧
    (∀ ro M, (mem ro M).next = M.length) ∧ (∀ ro M k, (mem ro M).get k = (M[k]?).join) ∧ (∀ ro M, (mem ro M).ro = ro) := ⟨fun _ _ _ _ => rfl, fun _ _ _ _ _ => rfl, fun _ _ _ _ _ _ _ => rfl, fun _ _ _ _ _ _ _ => rfl, mem_next, mem_get, mem_ro⟩
theorem jVb : (∀ v h n i, viewP v h n i [] = True) ∧ (∀ v h n i l, viewP v h n i (none :: l) = viewP v h n (i + 1) l) ∧
    (∀ v h n i c e o l, viewP v h n i (some ⟨c, e, o⟩ :: l) = (okL n c ∧ h.get (v i) = some ⟨mapL v c, e, o⟩ ∧ viewP v h n (i + 1) l)) ∧ (∀ ro M k, (mem ro M).get k = (M[k]?).join) := ⟨fun _ _ _ _ => rfl, fun _ _ _ _ _ => rfl, fun _ _ _ _ _ _ _ _ => rfl, mem_get⟩
theorem jSl : (∀ v n S, slotsP v n S [] = True) ∧ (∀ v n S k u L, slotsP v n S ((k, u) :: L) = ((okV n u ∧ lk S k = some (mapV v u)) ∧ slotsP v n S L)) ∧ (∀ p : Prop, (p ∧ True) = p) ∧ (∀ p : Prop, (True ∧ p) = p) ∧
    (∀ (α : Type) (a b : List α), (a ++ b).length = a.length + b.length) ∧ (∀ (α β : Type) (f : α → β) (l : List α), (l.map f).length = l.length) ∧ (∀ (α : Type) (a : α) (l : List α), (a :: l).length = l.length + 1) ∧ (∀ α : Type, ([] : List α).length = 0) :=
  ⟨fun _ _ _ => rfl, fun _ _ _ _ _ _ => rfl, and_true, true_and, fun _ _ _ => List.length_append, fun _ _ _ _ => List.length_map _, fun _ _ _ => rfl, fun _ => rfl⟩
section
variable {P : Program} {tb : Tb P} {cf : CF} {n N : Nat} {k : List Fm} {c : Code} {S : List (Nat × V)} {t : T V} {h h1 : LH} {Q : Ex → T V → LH → Prop} {K : List Nat} {i d : Nat} {v : V} {p : Prop} [Decidable p] {a b : Int}
theorem jSb {v : List Nat} {MM M2 : List (Option Blk)} {S2 : List (Nat × V)} (hm : viewP (fun i => v.getD i 0) (mem 0 MM) M2.length 0 M2) (hs : slotsP (fun i => v.getD i 0) M2.length S S2) (hi : (List.range N).all (fun i => Nat.beq (v.getD i 0) i) = true := by exact rfl) (hx : Nat.ble N M2.length = true := by exact rfl)
    (ho : own2 (fun i => v.getD i 0) M2 = true := by first | exact rfl | exact own2_dist rfl rfl) : SeenBy v N S MM S2 M2 := ⟨hi, hx, hm, ho, hs⟩
theorem jSn (v : List Nat) {MM M2 : List (Option Blk)} {S2 : List (Nat × V)} (hm : viewP (fun i => v.getD i 0) (mem 0 MM) M2.length 0 M2) (hs : slotsP (fun i => v.getD i 0) M2.length S S2) (hi : (List.range N).all (fun i => Nat.beq (v.getD i 0) i) = true := by exact rfl) (hx : Nat.ble N M2.length = true := by exact rfl)
    (ho : own2 (fun i => v.getD i 0) M2 = true := by first | exact rfl | exact own2_dist rfl rfl) : Seen N (slt S) (mem 0 MM) S2 M2 := (jSb hm hs hi hx ho).seen
theorem jp (w : WD tb cf n N c (i + 1) ((d, v) :: S) h k K Q) (hi : Nat.blt i (kops c).toList.length = true := by exact rfl) (hd : (kop c i).dst = some d := by exact rfl) (hf : fitS n (kops c) (kop c i) S = true := by exact rfl) (hw : wantS (kops c) (kop c i) S = true := by exact rfl)
    (hs : evP tb (evRS ((kop c i).looksAt (kops c)) S) (kop c i).op = some v := by exact rfl) : WD tb cf n N c i S h k (0 :: K) Q := WD.p hi hd hf hw hs w
theorem jr (w : WD tb cf n N c (i + 1) ((d, v) :: S) h k K Q) (hi : Nat.blt i (kops c).toList.length = true := by exact rfl) (hd : (kop c i).dst = some d := by exact rfl) (hf : fitS n (kops c) (kop c i) S = true := by exact rfl) (hw : wantS (kops c) (kop c i) S = true := by exact rfl)
    (hs : evQ tb cf (evRS ((kop c i).looksAt (kops c)) S) h (kop c i).op = some v := by exact rfl) : WD tb cf n N c i S h k (1 :: K) Q := WD.r hi hd hf hw hs w
theorem jw {kd : IntKind} {z : Int} (w : WD tb cf n N c (i + 1) ((d, .i kd z) :: S) h k K Q) (hi : Nat.blt i (kops c).toList.length = true := by exact rfl) (hd : (kop c i).dst = some d := by exact rfl) (hf : fitS n (kops c) (kop c i) S = true := by exact rfl) (hw : wantS (kops c) (kop c i) S = true := by exact rfl)
    (hs : evP tb (evRS ((kop c i).looksAt (kops c)) S) (kop c i).op = some (.i kd (wr kd z)) := by exact rfl) (h0 : lo kd ≤ z := by simp only [lo]; omega) (h2 : z ≤ Am.hi kd := by simp only [Am.hi]; omega) : WD tb cf n N c i S h k (0 :: K) Q := WD.pW hi hd hf hw hs h0 h2 w
theorem jd {l o o' : Nat} (w : WD tb cf n N c (i + 1) ((d, .p (some (l, o'))) :: S) h k K Q) (hi : Nat.blt i (kops c).toList.length = true := by exact rfl) (hd : (kop c i).dst = some d := by exact rfl) (hf : fitS n (kops c) (kop c i) S = true := by exact rfl) (hw : wantS (kops c) (kop c i) S = true := by exact rfl)
    (hs : evP tb (evRS ((kop c i).looksAt (kops c)) S) (kop c i).op = some (.p (some (l, o))) := by exact rfl) (ho : o = o' := by simp only [nl, nz, Nat.reduceAdd, Nat.reduceMul, Int.reduceToNat]; exact rfl) : WD tb cf n N c i S h k (0 :: K) Q := WD.pP hi hd hf hw hs ho w
theorem jdDT (w : WD tb cf n N c (i + 1) ((d, .b true) :: S) h k K Q) (hi : Nat.blt i (kops c).toList.length = true := by exact rfl) (hd : (kop c i).dst = some d := by exact rfl) (hf : fitS n (kops c) (kop c i) S = true := by exact rfl) (hw : wantS (kops c) (kop c i) S = true := by exact rfl)
    (hs : evP tb (evRS ((kop c i).looksAt (kops c)) S) (kop c i).op = some (.b (decide p)) := by exact rfl) (hp : p := by omega) : WD tb cf n N c i S h k (0 :: K) Q := WD.pDT hi hd hf hw hs hp w
theorem jdDF (w : WD tb cf n N c (i + 1) ((d, .b false) :: S) h k K Q) (hi : Nat.blt i (kops c).toList.length = true := by exact rfl) (hd : (kop c i).dst = some d := by exact rfl) (hf : fitS n (kops c) (kop c i) S = true := by exact rfl) (hw : wantS (kops c) (kop c i) S = true := by exact rfl)
    (hs : evP tb (evRS ((kop c i).looksAt (kops c)) S) (kop c i).op = some (.b (decide p)) := by exact rfl) (hp : ¬ p := by omega) : WD tb cf n N c i S h k (0 :: K) Q := WD.pDF hi hd hf hw hs hp w
theorem jdET (w : WD tb cf n N c (i + 1) ((d, .b true) :: S) h k K Q) (hi : Nat.blt i (kops c).toList.length = true := by exact rfl) (hd : (kop c i).dst = some d := by exact rfl) (hf : fitS n (kops c) (kop c i) S = true := by exact rfl) (hw : wantS (kops c) (kop c i) S = true := by exact rfl)
    (hs : evP tb (evRS ((kop c i).looksAt (kops c)) S) (kop c i).op = some (.b (a == b)) := by exact rfl) (hp : a = b := by omega) : WD tb cf n N c i S h k (0 :: K) Q := WD.pET hi hd hf hw hs hp w
theorem jdEF (w : WD tb cf n N c (i + 1) ((d, .b false) :: S) h k K Q) (hi : Nat.blt i (kops c).toList.length = true := by exact rfl) (hd : (kop c i).dst = some d := by exact rfl) (hf : fitS n (kops c) (kop c i) S = true := by exact rfl) (hw : wantS (kops c) (kop c i) S = true := by exact rfl)
    (hs : evP tb (evRS ((kop c i).looksAt (kops c)) S) (kop c i).op = some (.b (a == b)) := by exact rfl) (hp : ¬ a = b := by omega) : WD tb cf n N c i S h k (0 :: K) Q := WD.pEF hi hd hf hw hs hp w
theorem jdNT (w : WD tb cf n N c (i + 1) ((d, .b true) :: S) h k K Q) (hi : Nat.blt i (kops c).toList.length = true := by exact rfl) (hd : (kop c i).dst = some d := by exact rfl) (hf : fitS n (kops c) (kop c i) S = true := by exact rfl) (hw : wantS (kops c) (kop c i) S = true := by exact rfl)
    (hs : evP tb (evRS ((kop c i).looksAt (kops c)) S) (kop c i).op = some (.b (a != b)) := by exact rfl) (hp : ¬ a = b := by omega) : WD tb cf n N c i S h k (0 :: K) Q := WD.pNT hi hd hf hw hs hp w
theorem jdNF (w : WD tb cf n N c (i + 1) ((d, .b false) :: S) h k K Q) (hi : Nat.blt i (kops c).toList.length = true := by exact rfl) (hd : (kop c i).dst = some d := by exact rfl) (hf : fitS n (kops c) (kop c i) S = true := by exact rfl) (hw : wantS (kops c) (kop c i) S = true := by exact rfl)
    (hs : evP tb (evRS ((kop c i).looksAt (kops c)) S) (kop c i).op = some (.b (a != b)) := by exact rfl) (hp : a = b := by omega) : WD tb cf n N c i S h k (0 :: K) Q := WD.pNF hi hd hf hw hs hp w
theorem jno (w : WD tb cf n N c (i + 1) ((d, .tup []) :: S) h k K Q) (hi : Nat.blt i (kops c).toList.length = true := by exact rfl) (hd : (kop c i).dst = some d := by exact rfl) (hf : fitS n (kops c) (kop c i) S = true := by exact rfl) (hw : wantS (kops c) (kop c i) S = false := by exact rfl) : WD tb cf n N c i S h k (0 :: K) Q := WD.no hi hd hf hw w
end

theorem bytesV_R : ∀ xs : List Int, bytesV (cellsR (rwI .u8) xs) = some xs
  | [] => rfl
  | x :: xs => by
    have : cellsR (rwI .u8) (x :: xs) = .i .u8 x :: cellsR (rwI .u8) xs := by simp [cellsR, rwI]
    rw [this]
    simp only [bytesV, bytesV_R xs]
def Byt (xs : List Int) : Prop := ∀ x ∈ xs, 0 ≤ x ∧ x ≤ 255
theorem strOf_fold : ∀ (xs : List Int) (b : ByteArray), (xs.foldl (fun r n => r.push (UInt8.ofNat n.toNat)) b).data.toList = b.data.toList ++ xs.map fun x => UInt8.ofNat x.toNat
  | [], b => by simp
  | x :: xs, b => by
    simp only [List.foldl_cons, strOf_fold xs]
    show (b.data.push _).toList ++ _ = _
    rw [Array.toList_push]; simp
theorem strOf_data (xs : List Int) : (strOf xs).data.toList = xs.map fun x => UInt8.ofNat x.toNat := by
  unfold strOf; rw [strOf_fold]; rfl
theorem strOf_size (xs : List Int) : (strOf xs).size = xs.length := by
  have h : (strOf xs).data.toList.length = xs.length := by rw [strOf_data, List.length_map]
  rw [← h, Array.length_toList]; rfl
theorem strOf_cells {xs : List Int} (h : Byt xs) : ((strOf xs).data.toList.map fun b => V.i .u8 (b.toNat : Int)) = cellsR (rwI .u8) xs := by
  rw [strOf_data, List.map_map]
  have : cellsR (rwI .u8) xs = xs.map (V.i .u8) := by
    induction xs with
    | nil => rfl
    | cons x xs ih => have := ih (fun y hy => h y (List.mem_cons_of_mem _ hy)); simp only [cellsR, List.map_cons, List.flatten_cons] at this ⊢; rw [this]; rfl
  rw [this]
  refine List.map_congr_left fun x hx => ?_
  have := h x hx
  simp only [Function.comp]
  congr 1
  rw [UInt8.toNat_ofNat']
  omega
theorem strOf_app (xs ys : List Int) : strOf xs ++ strOf ys = strOf (xs ++ ys) := by
  apply ByteArray.ext
  apply Array.ext'
  rw [ByteArray.data_append, Array.toList_append, strOf_data, strOf_data, strOf_data, List.map_append]
theorem strOf_inj {xs ys : List Int} (hx : Byt xs) (hy : Byt ys) (h : (strOf xs).toList = (strOf ys).toList) : xs = ys := by
  have h2 : (strOf xs).data.toList = (strOf ys).data.toList := by simpa [ByteArray.toList_eq] using h
  have h3 := congrArg (List.map fun b : UInt8 => V.i .u8 (b.toNat : Int)) h2
  rw [strOf_cells hx, strOf_cells hy] at h3
  have h4 := congrArg bytesV h3
  rw [bytesV_R, bytesV_R] at h4
  exact Option.some.inj h4
section
variable {P : Program} {tb : Tb P} {cf : CF} {n N : Nat} {k : List Fm} {c : Code} {S : List (Nat × V)} {h h1 h2 h' : LH} {Q : Ex → T V → LH → Prop} {e : Operand → Option V} {op : Op} {g : FuncId} {vs : List V} {v : V} {K : List Nat} {i d : Nat}
theorem evR_str {s t E : TypeId} {x : Operand} {l o m cap : Nat} {q : Bool} {xs : List Int} (hop : op = .convert s t x) (hx : e x = some (.sl (some (l, o)) m cap q)) (hs : tb.und s = some (.slice E)) (ht : tb.und t = some .string) (hE : tb.und E = some (.int .u8)) (hc : cellsAt h l o m = some (cellsR (rwI .u8) xs)) (hl : xs.length = m) :
    evR tb e h op = some (.s (strOf xs)) := by
  subst hop
  simp only [evR, hx, sbV, hs, ht, hE]
  by_cases h0 : m = 0
  · rw [if_pos h0]
    have : xs = [] := List.length_eq_zero_iff.1 (by omega)
    subst this; rfl
  · rw [if_neg h0]
    simp only [hc, bytesV_R]
theorem evH_bytes {s t E : TypeId} {x : Operand} {xs : List Int} {m : Nat} (hop : op = .convert s t x) (hx : e x = some (.s (strOf xs))) (hs : tb.und s = some .string) (ht : tb.und t = some (.slice E)) (hE : tb.und E = some (.int .u8)) (hz : tb.sz E = some 1) (hb : Byt xs) (hl : xs.length = m) :
    evH tb e h op = some (.sl (some (h.next, 0)) m m true, h.new ⟨cellsR (rwI .u8) xs, E, true⟩) := by
  subst hop
  subst hl
  simp only [evH, hx, bsV, hs, ht, hE, hz, strOf_cells hb, strOf_size]
/-- Which calls are quiet. -/
def kindG {P : Program} (tb : Tb P) (ql : List FuncId) (o : Oper) : Nat := match o.op with
  | .call ⟨.value (.func f), _, _⟩ => if ql.any (Nat.beq f) then 1 else 2
  | _ => kindOf tb o
theorem WS.pdrawG (ql : List FuncId) (hg : Good P cf) (hm : P.follows .mixedOrders = true) (hk : kind c = 6) (hst : statB (kops c) = true) (hc : drawOK (kops c) ((kops c).toList.map (kindG tb ql)) = true) (w : WD tb cf n N c 0 S h k ((kops c).toList.map (kindG tb ql)) Q) : WS P n N (.c c :: k) (slt S) h Q := WS.pdrawC hm hg hk hst w hc
theorem WD.callQ {x : LH} (hi : Nat.blt i (kops c).toList.length = true) (hd : (kop c i).dst = some d) (hf : fitS n (kops c) (kop c i) S = true) (hw : wantS (kops c) (kop c i) S = true)
    (h0 : evP tb (evRS ((kop c i).looksAt (kops c)) S) (kop c i).op = none) (h1 : evR tb (evRS ((kop c i).looksAt (kops c)) S) h (kop c i).op = none) (hc : evCall tb (evRS ((kop c i).looksAt (kops c)) S) (kop c i).op = some (g, vs)) (hl : tb.loud g = false)
    (hcf : cf g vs (lockH h) = some (v, x)) (hv : okB h.next v = true) (w : WD tb cf n N c (i + 1) ((d, v) :: S) h k K Q) : WD tb cf n N c i S h k (1 :: K) Q :=
  WD.r hi hd hf hw (by
    have hcf : cf g vs ⟨h.next, h.next, h.m⟩ = some (v, x) := hcf
    simp only [evQ, h0, h1, hc, hl, Bool.false_eq_true, if_false, hcf, hv, if_true]) w
theorem WD.callE (hi : Nat.blt i (kops c).toList.length = true) (hd : (kop c i).dst = some d) (hf : fitS n (kops c) (kop c i) S = true) (hw : wantS (kops c) (kop c i) S = true)
    (h0 : evP tb (evRS ((kop c i).looksAt (kops c)) S) (kop c i).op = none) (h1 : evR tb (evRS ((kop c i).looksAt (kops c)) S) h (kop c i).op = none) (h3 : evH tb (evRS ((kop c i).looksAt (kops c)) S) h (kop c i).op = none) (hc : evCall tb (evRS ((kop c i).looksAt (kops c)) S) (kop c i).op = some (g, vs)) (hl : tb.loud g = false)
    (hno : cf g vs (lockH h) = none) (hcf : cf g vs h = some (v, h2)) (w : WD tb cf n N c (i + 1) ((d, v) :: S) h2 k K Q) : WD tb cf n N c i S h k (2 :: K) Q :=
  WD.e hi hd hf hw (by
    have hno : cf g vs ⟨h.next, h.next, h.m⟩ = none := hno
    simp only [evQ, h0, h1, hc, hl, Bool.false_eq_true, if_false, hno]) (by simp only [evE, h3, hc, hcf]) w
theorem one_hit : oneCall g vs h v h' cf g vs h = some (v, h') := by unfold oneCall; rw [if_pos ⟨rfl, rfl, rfl⟩]
theorem one_skip {g' : FuncId} {vs' : List V} {h0 : LH} (hn : Nat.beq g' g = false) : oneCall g vs h v h' cf g' vs' h0 = cf g' vs' h0 := by
  unfold oneCall; rw [if_neg]; rintro ⟨e, _⟩; subst e; rw [Nat.beq_refl] at hn; cases hn
theorem one_lock {vs' : List V} {h0 : LH} (hn : Nat.beq h.ro h0.ro = false) : oneCall g vs h v h' cf g vs' h0 = cf g vs' h0 := by
  unfold oneCall; rw [if_neg]; rintro ⟨_, _, e⟩; subst e; rw [Nat.beq_refl] at hn; cases hn
theorem one_next {vs' : List V} {h0 : LH} (hn : Nat.beq h.next h0.next = false) : oneCall g vs h v h' cf g vs' h0 = cf g vs' h0 := by
  unfold oneCall; rw [if_neg]; rintro ⟨_, _, e⟩; subst e; rw [Nat.beq_refl] at hn; cases hn
/-- A contract in an empty memory, as a row of the table. -/
theorem spec_of {v0 : V} {M0 : List (Option Blk)} (hf : FM P g vs [] (fun u M' => u = v0 ∧ M' = M0)) (hok : okL 0 vs) (B : Nat → Prop) (W : World) (r : Rho) (w : World) (H : LH) (R : RelH P B W r H w) :
    Calls P g (conL r vs).toArray w (fun e w' => ∃ u, e = .returned u ∧ Leaves P B W r H (mapV (over (fun i => i) 0 H.next) v0) (plug (fun i => i) (mem 0 []) H (mem 0 M0)) u w') := by
  have E : Emb (fun i => i) (mem 0 []) H := emb_mem (Nat.zero_le _) trivial rfl
  have hm : mapL (fun i => i) vs = vs := mapL_plain _ _ hok
  have F := (FQ.emb hf E hok) B W r w (by rw [hm]; exact okL_mono (Nat.zero_le _) _ hok) R
  rw [hm] at F
  refine F.mono ?_
  rintro e w' ⟨u, v, h', he, ⟨v1, h1, ⟨M', rfl, rfl, rfl⟩, rfl, rfl⟩, hl⟩
  exact ⟨u, he, hl⟩
end

section
variable {P : Program} {tb : Tb P} {n N : Nat} {k : List Fm} {c : Code} {S : List (Nat × V)} {t : T V} {h h1 h2 : LH} {Q : Ex → T V → LH → Prop} {f : Nat} {A : Array Bool} {v : V} {i j d : Nat}
/-- One operation, then what is left. -/
def WO (P : Program) (n N : Nat) (c : Code) (f : Nat) (A : Array Bool) (i : Nat) (k : List Fm) (t : T V) (h : LH) (Q : Ex → T V → LH → Prop) : Prop := ∀ (B : Nat → Prop) (W : World) (r : Rho) (a : Act) (w : World), N ≤ h.next → RelF r h.next n t a → RelH P B W r h w → ∀ Qw : Exit → Act → World → Prop,
  (∀ x' t' h' r' a' w', Q x' t' h' → Ext N r r' → RelF r' h'.next n t' a' → RelH P B W r' h' w' → Keep0 N h h' → Qw (conX x') a' w') →
  wpOp P (kops c) (fun x a w => x = .normal ∧ wpK P k Qw .normal a w) i (wpAny P .any (kops c) (fun x a w => x = .normal ∧ wpK P k Qw .normal a w) f (A.setIfInBounds i true)) a w
theorem WA.o1 (i : Nat) (hr : Region.ready .any (kops c) A = [i]) (w : WO P n N c f A i k t h Q) : WA P n N c (f + 1) A k t h Q := by
  intro B W r a wd hN F R Qw hQ
  refine wpAny_all hr (by simp) fun x hx => ?_
  obtain rfl := List.mem_singleton.1 hx
  exact w B W r a wd hN F R Qw hQ
theorem WA.o2 (i j : Nat) (hr : Region.ready .any (kops c) A = [i, j]) (w : WO P n N c f A i k t h Q) (w2 : WO P n N c f A j k t h Q) : WA P n N c (f + 1) A k t h Q := by
  intro B W r a wd hN F R Qw hQ
  refine wpAny_all hr (by simp) fun x hx => ?_
  simp only [List.mem_cons, List.not_mem_nil, or_false] at hx
  rcases hx with rfl | rfl
  · exact w B W r a wd hN F R Qw hQ
  · exact w2 B W r a wd hN F R Qw hQ
theorem WO.step (hi : Nat.blt i (kops c).toList.length = true) (hd : (kop c i).dst = some d) (hf : fitS n (kops c) (kop c i) S = true) (hw : wantS (kops c) (kop c i) S = true)
    (hs : step tb noCalls (evS S) h (kop c i).op = some (v, h1)) (w : WA P n N c f (A.setIfInBounds i true) k (slt ((d, v) :: S)) h1 Q) : WO P n N c f A i k (slt S) h Q :=
  fun _ _ _ _ _ hN F R _ hQ => WA.op hi hd hf hw hs hN F R hQ w
theorem WO.callM {g : FuncId} {vs vs' : List V} {M MM : List (Option Blk)} {Qf : V → List (Option Blk) → Prop} (L : List Nat) (hg : FM P g vs M Qf)
    (hi : Nat.blt i (kops c).toList.length = true) (hd : (kop c i).dst = some d) (hf : fitS n (kops c) (kop c i) S = true) (hw : wantS (kops c) (kop c i) S = true)
    (hc : evCall tb (evS S) (kop c i).op = some (g, vs')) (hvs : mapL (fun i => L.getD i 0) vs = vs') (hok : okL M.length vs) (hL : Nat.beq L.length M.length = true)
    (hp : embP (fun i => L.getD i 0) (mem 0 MM) M.length 0 M) (ho : own2 (fun i => L.getD i 0) M = true)
    (w : ∀ v M', Qf v M' → M.length ≤ M'.length → WA P n N c f (A.setIfInBounds i true) k (slt ((d, mapV (over (fun i => L.getD i 0) M.length MM.length) v) :: S)) (mem 0 (plugL MM.length L M M' MM)) Q) :
    WO P n N c f A i k (slt S) (mem 0 MM) Q := by
  have hL := Nat.eq_of_beq_eq_true hL
  have E : Emb (fun i => L.getD i 0) (mem 0 M) (mem 0 MM) := emb_mem (Nat.zero_le _) hp ho
  subst hvs
  have hgq := (FQ.next hg).emb E hok
  intro B W r a wd hN F R Qw hQ
  rw [← fitS_eq] at hf
  rw [← wantS_eq] at hw
  rw [← evO_slt] at hc
  unfold wpOp
  rw [kop_get hi]
  simp only
  rw [wantV_eq F _ _ (fitK_know hf), hw, if_pos rfl]
  refine .inl ?_
  obtain ⟨h1, h2⟩ := evCall_sound tb (holds_of F) hc wd
  unfold Oper.wp
  rw [h1, Oper.upon_enter]
  refine (hgq B W r wd h2 R).mono fun e w' ⟨u, v, h', he, hq, hl⟩ => ?_
  subst he
  obtain ⟨v1, h1', ⟨⟨M', rfl, hqf⟩, hn⟩, rfl, rfl⟩ := hq
  obtain ⟨r', hu, hx, hokv, R', K⟩ := hl
  subst hu
  have Sm := plug_mem E hL hn
  have F2 := (F.ext hx K.next).put (fitK_fits hf) hokv
  rw [hd, setO_slt] at F2
  rw [hd]
  rw [Sm.next] at F2
  refine w v1 M' hqf hn B W r' _ w' (by rw [← Sm.next]; exact Nat.le_trans hN K.next) F2 (Sm.relH R') Qw fun x t2 h2 r2 a2 w2 hq hx2 F3 R2 K2 => hQ x t2 h2 r2 a2 w2 hq ((hx.mono hN).trans (Nat.le_refl _) hx2) F3 R2 (.head K ⟨K2.ro.trans Sm.ro.symm, K2.next, fun l hl => ?_⟩)
  rw [Sm.get]
  exact K2.low l (by rw [← Sm.ro]; exact hl)
theorem evP_sadd {T u : TypeId} {x y : Operand} {xs ys : List Int} {b : ByteArray} {e : Operand → Option V} {op : Op} (hop : op = .binOp .add T x y u) (hx : e x = some (.s (strOf xs))) (hy : e y = some (.s b)) (hb : b = strOf ys) (hl : xs.length + ys.length ≤ 9223372036854775807) : evP tb e op = some (.s (strOf (xs ++ ys))) := by
  subst hop; subst hb
  simp only [evP, hx, hy, binV, strOf_size, if_pos hl, strOf_app]
end

/-- Blocks that stay: from which change on, the block's place, the block. -/
abbrev StL := List (Nat × Nat × Blk)
def stabF (St : StL) (q : Nat) (h : LH) : Prop := ∀ x ∈ St, x.1 ≤ q → h.get x.2.1 = some x.2.2
def stabs (St : StL) : Nat → List LH → Prop
  | _, [] => True
  | q, h :: l => stabF St q h ∧ stabs St (q + 1) l
theorem stabs_get {St : StL} : ∀ {l : List LH} {q j : Nat} {x : LH}, stabs St q l → l[j]? = some x → stabF St (q + j) x
  | [], _, j, _, _, h => by simp at h
  | y :: l, q, 0, x, s, h => by
    simp only [List.getElem?_cons_zero, Option.some.injEq] at h
    subst h; exact s.1
  | y :: l, q, j + 1, x, s, h => by
    simp only [List.getElem?_cons_succ] at h
    have := stabs_get s.2 h
    rwa [show q + 1 + j = q + (j + 1) by omega] at this
theorem stabF_sub {St St' : StL} {q : Nat} {h : LH} (hs : ∀ x ∈ St, x ∈ St') (s : stabF St' q h) : stabF St q h := fun x hx => s x (hs x hx)
theorem stabs_sub {St St' : StL} (hs : ∀ x ∈ St, x ∈ St') : ∀ {l : List LH} {q : Nat}, stabs St' q l → stabs St q l
  | [], _, _ => trivial
  | _ :: _, _, s => ⟨stabF_sub hs s.1, stabs_sub hs s.2⟩
def kn (ms : List Nat) (E : List Nat) (i j : Nat) : Bool := (List.range j).all fun q => !alwN ms i q E 0
def statX (ms : List Nat) (E : List Nat) : List Nat → Nat → Nat → Bool
  | [], _, _ => true
  | a :: K, i, p => if a = 2 then statX ms E K (i + 1) (p + 1) else (if a = 1 then okR ms E i p else if 5 ≤ a then kn ms E i (a - 5) else true) && statX ms E K (i + 1) p
theorem statX_0 {ms E K i p} (h : statX ms E (0 :: K) i p = true) : statX ms E K (i + 1) p = true := by
  unfold statX at h; rw [if_neg (by omega)] at h; simp only [Bool.and_eq_true] at h; exact h.2
theorem statX_1 {ms E K i p} (h : statX ms E (1 :: K) i p = true) : okR ms E i p = true ∧ statX ms E K (i + 1) p = true := by
  unfold statX at h; rw [if_neg (by omega), if_pos rfl] at h; simpa only [Bool.and_eq_true] using h
theorem statX_2 {ms E K i p} (h : statX ms E (2 :: K) i p = true) : statX ms E K (i + 1) (p + 1) = true := by
  unfold statX at h; rw [if_pos rfl] at h; exact h
theorem statX_5 {ms E K i p j} (h : statX ms E ((j + 5) :: K) i p = true) : kn ms E i j = true ∧ statX ms E K (i + 1) p = true := by
  unfold statX at h; rw [if_neg (by omega), if_neg (by omega), if_pos (by omega), Nat.add_sub_cancel] at h; simpa only [Bool.and_eq_true] using h
def drawOKX (ops : Array Oper) (K : List Nat) : Bool := chnN (msks ops.toList []) (eIdx K 0) && statX (msks ops.toList []) (eIdx K 0) K 0 0
def stabM : StL → List (Option Blk) → Prop
  | [], _ => True
  | (_, l, b) :: r, M => M[l]? = some (some b) ∧ stabM r M
theorem mem_get1 {ro : Nat} {M : List (Option Blk)} {l : Nat} {b : Blk} (h : M[l]? = some (some b)) : (mem ro M).get l = some b := by rw [mem_get, h]; rfl
theorem stabM_F {q ro : Nat} : ∀ {St : StL} {M : List (Option Blk)}, stabM St M → stabF St q (mem ro M)
  | [], _, _ => fun x hx => by cases hx
  | (j, l, b) :: r, M, s => fun x hx _ => by
    rcases List.mem_cons.1 hx with rfl | hx
    · exact mem_get1 s.1
    · exact stabM_F (q := x.1) s.2 x hx (Nat.le_refl _)
def lkSt : StL → Nat → Option (Nat × Blk)
  | [], _ => none
  | (j, l, b) :: r, m => bif Nat.beq l m then some (j, b) else lkSt r m
theorem lkSt_mem : ∀ {St : StL} {l j : Nat} {b : Blk}, lkSt St l = some (j, b) → (j, l, b) ∈ St
  | [], _, _, _, h => by cases h
  | (j', l', b') :: r, l, j, b, h => by
    unfold lkSt at h
    cases hb : Nat.beq l' l with
    | true =>
      rw [hb] at h
      simp only [cond_true, Option.some.injEq, Prod.mk.injEq] at h
      obtain ⟨rfl, rfl⟩ := h
      obtain rfl := Nat.eq_of_beq_eq_true hb
      exact List.mem_cons_self ..
    | false =>
      rw [hb] at h
      exact List.mem_cons_of_mem _ (lkSt_mem h)
section
variable {P : Program} {tb : Tb P} {cf : CF} {n N : Nat} {k : List Fm} {c : Code} {S : List (Nat × V)} {h h1 : LH} {Q : Ex → T V → LH → Prop} {K : List Nat} {i d pp : Nat} {v : V} {St : StL}
/-- What is left of a drawn region, in the order of the text. -/
def WX (St : StL) (pp : Nat) (tb : Tb P) (cf : CF) (n N : Nat) (c : Code) (i : Nat) (S : List (Nat × V)) (h : LH) (k : List Fm) (K : List Nat) (Q : Ex → T V → LH → Prop) : Prop :=
  ∃ D t' h', lexRun tb cf n (kops c) ((kops c).toList.drop i) (slt S) h = some (D, t', h') ∧ (∀ j, (effs D j).map (·.1) = eIdx K j) ∧
    (∀ (E : List (Nat × LH)) (hs : List LH) (ms : List Nat), hs.length = E.length + 1 → statX ms (E.map (·.1)) K i pp = true → hs.drop pp = h :: mems D → (∀ q x, q < pp → hs[q]? = some x → stabF St q x) → chk tb cf (kops c) E hs ms ((kops c).toList.drop i) D i pp (slt S) = true) ∧
    stabs St pp (h :: mems D) ∧ WS P n N k t' h' Q
theorem WX.fin (hi : Nat.ble (kops c).toList.length i = true) (hst : stabF St pp h) (w : WS P n N k (slt S) h Q) : WX St pp tb cf n N c i S h k [] Q := by
  refine ⟨[], slt S, h, ?_, fun _ => rfl, fun E hs ms _ _ _ _ => ?_, ⟨hst, trivial⟩, w⟩
  · rw [List.drop_eq_nil_of_le (Nat.le_of_ble_eq_true hi)]; rfl
  · rw [List.drop_eq_nil_of_le (Nat.le_of_ble_eq_true hi)]; rfl
theorem WX.p {dd : Option Tmp} (hi : Nat.blt i (kops c).toList.length = true) (hd : (kop c i).dst = dd) (hf : fitS n (kops c) (kop c i) S = true) (hw : wantS (kops c) (kop c i) S = true)
    (hs : evP tb (evRS ((kop c i).looksAt (kops c)) S) (kop c i).op = some v) (w : WX St pp tb cf n N c (i + 1) (setS S dd v) h k K Q) : WX St pp tb cf n N c i S h k (0 :: K) Q := by
  obtain ⟨D, t', h', g1, g2, g3, g5, g4⟩ := w
  subst hd
  refine ⟨(v, none) :: D, t', h', ?_, fun j => g2 (j + 1), fun E hs' ms hl hst hdr hx => ?_, g5, g4⟩
  · rw [drop_kop hi]
    have : evQ tb cf (evRS ((kop c i).looksAt (kops c)) S) h (kop c i).op = some v := by unfold evQ; rw [hs]
    simp only [lexRun, fitS_eq, hf, if_true, wantS_eq, hw, eR_slt, this, setO_slt, g1]
  · rw [drop_kop hi]
    simp only [chk, wantS_eq, hw, eR_slt, hs, Bool.true_and, setO_slt]
    exact g3 E hs' ms hl (statX_0 hst) hdr hx
theorem WX.no {dd : Option Tmp} (hi : Nat.blt i (kops c).toList.length = true) (hd : (kop c i).dst = dd) (hf : fitS n (kops c) (kop c i) S = true) (hw : wantS (kops c) (kop c i) S = false)
    (w : WX St pp tb cf n N c (i + 1) (setS S dd (.tup [])) h k K Q) : WX St pp tb cf n N c i S h k (0 :: K) Q := by
  obtain ⟨D, t', h', g1, g2, g3, g5, g4⟩ := w
  subst hd
  refine ⟨(.tup [], none) :: D, t', h', ?_, fun j => g2 (j + 1), fun E hs' ms hl hst hdr hx => ?_, g5, g4⟩
  · rw [drop_kop hi]
    simp only [lexRun, fitS_eq, hf, if_true, wantS_eq, hw, setO_slt, g1]
  · rw [drop_kop hi]
    simp only [chk, wantS_eq, hw, Bool.true_and, setO_slt]
    exact g3 E hs' ms hl (statX_0 hst) hdr hx
theorem WX.r {dd : Option Tmp} (hi : Nat.blt i (kops c).toList.length = true) (hd : (kop c i).dst = dd) (hf : fitS n (kops c) (kop c i) S = true) (hw : wantS (kops c) (kop c i) S = true)
    (hs : evQ tb cf (evRS ((kop c i).looksAt (kops c)) S) h (kop c i).op = some v) (w : WX St pp tb cf n N c (i + 1) (setS S dd v) h k K Q) : WX St pp tb cf n N c i S h k (1 :: K) Q := by
  obtain ⟨D, t', h', g1, g2, g3, g5, g4⟩ := w
  subst hd
  refine ⟨(v, none) :: D, t', h', ?_, fun j => g2 (j + 1), fun E hs' ms hl hst hdr hx => ?_, g5, g4⟩
  · rw [drop_kop hi]
    simp only [lexRun, fitS_eq, hf, if_true, wantS_eq, hw, eR_slt, hs, setO_slt, g1]
  · rw [drop_kop hi]
    have hst := statX_1 hst
    simp only [chk, wantS_eq, hw, eR_slt, setO_slt, Bool.and_eq_true]
    refine ⟨?_, g3 E hs' ms hl hst.2 hdr hx⟩
    have ho : okR ms (E.map (·.1)) i pp = true := hst.1
    split
    · rfl
    · refine chkQ_of hs' 0 fun j hj => ?_
      have := List.all_eq_true.1 ho j (List.mem_range.2 (by rw [List.length_map]; omega))
      rw [Nat.zero_add, alw_eq]
      simpa using this
/-- One that reads what stays. -/
theorem WX.s {dd : Option Tmp} {l j : Nat} {b : Blk} (hi : Nat.blt i (kops c).toList.length = true) (hd : (kop c i).dst = dd) (hf : fitS n (kops c) (kop c i) S = true) (hw : wantS (kops c) (kop c i) S = true)
    (hm : (j, l, b) ∈ St) (hj : j ≤ pp) (hs : ∀ x : LH, x.get l = some b → evQ tb cf (evRS ((kop c i).looksAt (kops c)) S) x (kop c i).op = some v) (w : WX St pp tb cf n N c (i + 1) (setS S dd v) h k K Q) : WX St pp tb cf n N c i S h k ((j + 5) :: K) Q := by
  obtain ⟨D, t', h', g1, g2, g3, g5, g4⟩ := w
  subst hd
  have hh := hs h (g5.1 _ hm hj)
  refine ⟨(v, none) :: D, t', h', ?_, fun j => g2 (j + 1), fun E hs' ms hl hst hdr hx => ?_, g5, g4⟩
  · rw [drop_kop hi]
    simp only [lexRun, fitS_eq, hf, if_true, wantS_eq, hw, eR_slt, hh, setO_slt, g1]
  · rw [drop_kop hi]
    have hst := statX_5 hst
    simp only [chk, wantS_eq, hw, eR_slt, setO_slt, Bool.and_eq_true]
    refine ⟨?_, g3 E hs' ms hl hst.2 hdr hx⟩
    split
    · rfl
    · refine chkQ_mem hs' 0 fun q x hq => ?_
      rw [Nat.zero_add, alw_eq]
      simp only [Bool.or_eq_true]
      by_cases hqj : q < j
      · have := List.all_eq_true.1 hst.1 q (List.mem_range.2 hqj)
        exact .inl (.inr this)
      · right
        have hg : x.get l = some b := by
          by_cases hqp : q < pp
          · exact hx q x hqp hq _ hm (by omega)
          · have hq2 : (h :: mems D)[q - pp]? = some x := by
              have hdr2 : hs'.drop pp = h :: mems D := hdr
              rw [← hdr2, List.getElem?_drop, show pp + (q - pp) = q by omega]; exact hq
            exact stabs_get g5 hq2 _ hm (by show j ≤ _; omega)
        rw [hs x hg]
        exact beqV_self v
/-- One that makes or writes memory. -/
theorem WX.e {dd : Option Tmp} (hi : Nat.blt i (kops c).toList.length = true) (hd : (kop c i).dst = dd) (hf : fitS n (kops c) (kop c i) S = true) (hw : wantS (kops c) (kop c i) S = true)
    (hq : evQ tb cf (evRS ((kop c i).looksAt (kops c)) S) h (kop c i).op = none) (hs : evE tb cf (evRS ((kop c i).looksAt (kops c)) S) h (kop c i).op = some (v, h1)) (hst0 : stabF St pp h)
    (w : WX St (pp + 1) tb cf n N c (i + 1) (setS S dd v) h1 k K Q) : WX St pp tb cf n N c i S h k (2 :: K) Q := by
  obtain ⟨D, t', h', g1, g2, g3, g5, g4⟩ := w
  subst hd
  refine ⟨(v, some h1) :: D, t', h', ?_, fun j => ?_, fun E hs' ms hl hst hdr hx => ?_, ⟨hst0, g5⟩, g4⟩
  · rw [drop_kop hi]
    simp only [lexRun, fitS_eq, hf, if_true, wantS_eq, hw, eR_slt, hq, hs, setO_slt, g1]
  · simp only [effs, List.map_cons, eIdx, g2]
  · rw [drop_kop hi]
    simp only [chk, setO_slt]
    refine g3 E hs' ms hl (statX_2 hst) (by rw [← List.drop_drop, hdr]; rfl) fun q x hq hqx => ?_
    by_cases h2 : q < pp
    · exact hx q x h2 hqx
    · obtain rfl : q = pp := by omega
      have := congrArg (fun l => l[0]?) hdr
      simp only [List.getElem?_drop, Nat.add_zero, List.getElem?_cons_zero] at this
      rw [hqx] at this
      obtain rfl := Option.some.inj this
      exact hst0
/-- A block that stays from now on. -/
theorem WX.keep {x : Nat × Nat × Blk} (hx0 : x.1 = pp) (w : WX (x :: St) pp tb cf n N c i S h k K Q) : WX St pp tb cf n N c i S h k K Q := by
  obtain ⟨D, t', h', g1, g2, g3, g5, g4⟩ := w
  refine ⟨D, t', h', g1, g2, fun E hs' ms hl hst hdr hx => g3 E hs' ms hl hst hdr fun q y hq hqy z hz hzq => ?_, stabs_sub (fun z hz => List.mem_cons_of_mem _ hz) g5, g4⟩
  rcases List.mem_cons.1 hz with rfl | hz
  · omega
  · exact hx q y hq hqy z hz hzq
/-! ### Calls -/
abbrev Keys := List (FuncId × List V × Nat)
def missB : Keys → FuncId → List V → Nat → Bool
  | [], _, _, _ => true
  | (g', vs', m') :: r, g, vs, m => !(Nat.beq g' g && (Nat.beq m' m && beqL vs' vs)) && missB r g vs m
def agree (KT : Keys) (cf cf' : CF) : Prop := ∀ g vs h0, (h0.ro = 0 → missB KT g vs h0.next = true) → cf g vs h0 = cf' g vs h0
def noLock (cf : CF) : Prop := ∀ g vs h0, ¬ h0.ro = 0 → cf g vs h0 = none
def WZ (KT : Keys) (Kp : List Nat) (St : StL) (pp : Nat) (tb : Tb P) (n N : Nat) (c : Code) (i : Nat) (S : List (Nat × V)) (h : LH) (k : List Fm) (Q : Ex → T V → LH → Prop) : Prop :=
  ∃ K cf', drawOKX (kops c) (Kp.reverse ++ K) = true ∧ Good P cf' ∧ noLock cf' ∧ ∀ cf, agree KT cf cf' → WX St pp tb cf n N c i S h k K Q
variable {KT : Keys} {Kp : List Nat}
theorem WZ.step {a i2 : Nat} {S2 : List (Nat × V)} (f : ∀ cf K, WX St pp tb cf n N c i2 S2 h k K Q → WX St pp tb cf n N c i S h k (a :: K) Q) (w : WZ KT (a :: Kp) St pp tb n N c i2 S2 h k Q) : WZ KT Kp St pp tb n N c i S h k Q := by
  obtain ⟨K, cf', h1, h2, h3, h4⟩ := w
  exact ⟨a :: K, cf', by rwa [List.reverse_cons, List.append_assoc] at h1, h2, h3, fun cf ha => f cf K (h4 cf ha)⟩
theorem WZ.p' {dd : Option Tmp} (hi : Nat.blt i (kops c).toList.length = true) (hd : (kop c i).dst = dd) (hf : fitS n (kops c) (kop c i) S = true) (hw : wantS (kops c) (kop c i) S = true)
    (hs : evP tb (evRS ((kop c i).looksAt (kops c)) S) (kop c i).op = some v) (w : WZ KT (0 :: Kp) St pp tb n N c (i + 1) (setS S dd v) h k Q) : WZ KT Kp St pp tb n N c i S h k Q := WZ.step (fun _ _ w => WX.p hi hd hf hw hs w) w
theorem WZ.no' {dd : Option Tmp} (hi : Nat.blt i (kops c).toList.length = true) (hd : (kop c i).dst = dd) (hf : fitS n (kops c) (kop c i) S = true) (hw : wantS (kops c) (kop c i) S = false)
    (w : WZ KT (0 :: Kp) St pp tb n N c (i + 1) (setS S dd (.tup [])) h k Q) : WZ KT Kp St pp tb n N c i S h k Q := WZ.step (fun _ _ w => WX.no hi hd hf hw w) w
theorem WZ.fin {M : List (Option Blk)} (hi : Nat.ble (kops c).toList.length i = true) (hK : drawOKX (kops c) Kp.reverse = true) (hst : stabM St M) (w : WS P n N k (slt S) (mem 0 M) Q) : WZ KT Kp St pp tb n N c i S (mem 0 M) k Q :=
  ⟨[], noCalls, by rw [List.append_nil]; exact hK, good_none, fun _ _ _ _ => rfl, fun _ _ => WX.fin hi (stabM_F hst) w⟩
theorem WZ.keep {l : Nat} {b : Blk} {M : List (Option Blk)} (_hb : M[l]? = some (some b)) (w : WZ KT Kp ((pp, l, b) :: St) pp tb n N c i S (mem 0 M) k Q) : WZ KT Kp St pp tb n N c i S (mem 0 M) k Q := by
  obtain ⟨K, cf', h1, h2, h3, h4⟩ := w
  exact ⟨K, cf', h1, h2, h3, fun cf ha => WX.keep rfl (h4 cf ha)⟩
def rdQ (tb : Tb P) (e : Operand → Option V) (h : LH) (op : Op) (v : V) : Prop := evP tb e op = none ∧ evR tb e h op = some v
theorem WZ.r (hi : Nat.blt i (kops c).toList.length = true) (hd : (kop c i).dst = some d) (hf : fitS n (kops c) (kop c i) S = true) (hw : wantS (kops c) (kop c i) S = true)
    (hs : rdQ tb (evRS ((kop c i).looksAt (kops c)) S) h (kop c i).op v) (w : WZ KT (1 :: Kp) St pp tb n N c (i + 1) ((d, v) :: S) h k Q) : WZ KT Kp St pp tb n N c i S h k Q :=
  WZ.step (fun _ _ w => WX.r hi hd hf hw (evQ_R hs.1 hs.2) w) w
theorem WZ.rA {l l' : List V} (hi : Nat.blt i (kops c).toList.length = true) (hd : (kop c i).dst = some d) (hf : fitS n (kops c) (kop c i) S = true) (hw : wantS (kops c) (kop c i) S = true)
    (hs : rdQ tb (evRS ((kop c i).looksAt (kops c)) S) h (kop c i).op (.agg l)) (ho : l = l') (w : WZ KT (1 :: Kp) St pp tb n N c (i + 1) ((d, .agg l') :: S) h k Q) : WZ KT Kp St pp tb n N c i S h k Q := by
  subst ho; exact WZ.r hi hd hf hw hs w
theorem WZ.s {l j : Nat} {b : Blk} (hi : Nat.blt i (kops c).toList.length = true) (hd : (kop c i).dst = some d) (hf : fitS n (kops c) (kop c i) S = true) (hw : wantS (kops c) (kop c i) S = true)
    (hm : lkSt St l = some (j, b)) (hj : Nat.ble j pp = true) (hs : ∀ x : LH, x.get l = some b → rdQ tb (evRS ((kop c i).looksAt (kops c)) S) x (kop c i).op v) (w : WZ KT ((j + 5) :: Kp) St pp tb n N c (i + 1) ((d, v) :: S) h k Q) : WZ KT Kp St pp tb n N c i S h k Q :=
  WZ.step (fun _ _ w => WX.s hi hd hf hw (lkSt_mem hm) (Nat.le_of_ble_eq_true hj) (fun x hx => evQ_R (hs x hx).1 (hs x hx).2) w) w
theorem WZ.sL {T : TypeId} {y : Operand} {l j o : Nat} {b : Blk} (hi : Nat.blt i (kops c).toList.length = true) (hd : (kop c i).dst = some d) (hf : fitS n (kops c) (kop c i) S = true) (hw : wantS (kops c) (kop c i) S = true)
    (hop : (kop c i).op = .load T y) (hx : evRS ((kop c i).looksAt (kops c)) S y = some (.p (some (l, o)))) (hm : lkSt St l = some (j, b)) (hj : Nat.ble j pp = true) (ha : isAgg tb T = some false) (hv : b.cells[o]? = some v)
    (w : WZ KT ((j + 5) :: Kp) St pp tb n N c (i + 1) ((d, v) :: S) h k Q) : WZ KT Kp St pp tb n N c i S h k Q :=
  WZ.s hi hd hf hw hm hj (fun _ hg => ⟨by rw [hop]; rfl, evR_load hop hx ha hg hv⟩) w
theorem WZ.sLA {T : TypeId} {y : Operand} {l j o z : Nat} {b : Blk} {vs l' : List V} (hi : Nat.blt i (kops c).toList.length = true) (hd : (kop c i).dst = some d) (hf : fitS n (kops c) (kop c i) S = true) (hw : wantS (kops c) (kop c i) S = true)
    (hop : (kop c i).op = .load T y) (hx : evRS ((kop c i).looksAt (kops c)) S y = some (.p (some (l, o)))) (hm : lkSt St l = some (j, b)) (hj : Nat.ble j pp = true) (ha : isAgg tb T = some true) (hz : tb.sz T = some z) (hv : (b.cells.drop o).take z = vs) (hl : vs.length = z) (ho : vs = l')
    (w : WZ KT ((j + 5) :: Kp) St pp tb n N c (i + 1) ((d, .agg l') :: S) h k Q) : WZ KT Kp St pp tb n N c i S h k Q := by
  subst ho
  exact WZ.s hi hd hf hw hm hj (fun _ hg => ⟨by rw [hop]; rfl, evR_loads hop hx ha hz hg hv hl⟩) w
theorem WZ.sC {s t E : TypeId} {y : Operand} {l j o m cap : Nat} {q : Bool} {b : Blk} {xs : List Int} (hi : Nat.blt i (kops c).toList.length = true) (hd : (kop c i).dst = some d) (hf : fitS n (kops c) (kop c i) S = true) (hw : wantS (kops c) (kop c i) S = true)
    (hop : (kop c i).op = .convert s t y) (hx : evRS ((kop c i).looksAt (kops c)) S y = some (.sl (some (l, o)) m cap q)) (hm : lkSt St l = some (j, b)) (hj : Nat.ble j pp = true) (hs : tb.und s = some (.slice E)) (ht : tb.und t = some .string) (hE : tb.und E = some (.int .u8))
    (h0 : evP tb (evRS ((kop c i).looksAt (kops c)) S) (kop c i).op = none) (hc : ∀ x : LH, x.get l = some b → cellsAt x l o m = some (cellsR (rwI .u8) xs)) (hl : xs.length = m)
    (w : WZ KT ((j + 5) :: Kp) St pp tb n N c (i + 1) ((d, .s (strOf xs)) :: S) h k Q) : WZ KT Kp St pp tb n N c i S h k Q :=
  WZ.s hi hd hf hw hm hj (fun x hg => ⟨h0, evR_str hop hx hs ht hE (hc x hg) hl⟩) w
def efH (tb : Tb P) (e : Operand → Option V) (h : LH) (op : Op) (v : V) (h1 : LH) : Prop := evP tb e op = none ∧ evR tb e h op = none ∧ evCall tb e op = none ∧ evH tb e h op = some (v, h1)
theorem WZ.e' {M : List (Option Blk)} {dd : Option Tmp} (hi : Nat.blt i (kops c).toList.length = true) (hd : (kop c i).dst = dd) (hf : fitS n (kops c) (kop c i) S = true) (hw : wantS (kops c) (kop c i) S = true)
    (hs : efH tb (evRS ((kop c i).looksAt (kops c)) S) (mem 0 M) (kop c i).op v h1) (hst : stabM St M) (w : WZ KT (2 :: Kp) St (pp + 1) tb n N c (i + 1) (setS S dd v) h1 k Q) : WZ KT Kp St pp tb n N c i S (mem 0 M) k Q := by
  obtain ⟨K, cf', g1, g2, g3, g4⟩ := w
  obtain ⟨s1, s2, s3, s4⟩ := hs
  refine ⟨2 :: K, cf', by rwa [List.reverse_cons, List.append_assoc] at g1, g2, g3, fun cf ha => WX.e hi hd hf hw ?_ ?_ (stabM_F hst) (g4 cf ha)⟩
  · simp only [evQ, s1, s2, s3]
  · simp only [evE, s4]
theorem WZ.e {M : List (Option Blk)} (hi : Nat.blt i (kops c).toList.length = true) (hd : (kop c i).dst = some d) (hf : fitS n (kops c) (kop c i) S = true) (hw : wantS (kops c) (kop c i) S = true)
    (hs : efH tb (evRS ((kop c i).looksAt (kops c)) S) (mem 0 M) (kop c i).op v h1) (hst : stabM St M) (w : WZ KT (2 :: Kp) St (pp + 1) tb n N c (i + 1) ((d, v) :: S) h1 k Q) : WZ KT Kp St pp tb n N c i S (mem 0 M) k Q := WZ.e' hi hd hf hw hs hst w
theorem WZ.e0 {M : List (Option Blk)} (hi : Nat.blt i (kops c).toList.length = true) (hd : (kop c i).dst = none) (hf : fitS n (kops c) (kop c i) S = true) (hw : wantS (kops c) (kop c i) S = true)
    (hs : efH tb (evRS ((kop c i).looksAt (kops c)) S) (mem 0 M) (kop c i).op v h1) (hst : stabM St M) (w : WZ KT (2 :: Kp) St (pp + 1) tb n N c (i + 1) S h1 k Q) : WZ KT Kp St pp tb n N c i S (mem 0 M) k Q := WZ.e' hi hd hf hw hs hst w
theorem WZ.call {g : FuncId} {vs : List V} {M M1 : List (Option Blk)} {dd : Option Tmp} (hi : Nat.blt i (kops c).toList.length = true) (hd : (kop c i).dst = dd) (hf : fitS n (kops c) (kop c i) S = true) (hw : wantS (kops c) (kop c i) S = true)
    (h0 : evP tb (evRS ((kop c i).looksAt (kops c)) S) (kop c i).op = none) (h2 : evR tb (evRS ((kop c i).looksAt (kops c)) S) (mem 0 M) (kop c i).op = none) (h3 : evH tb (evRS ((kop c i).looksAt (kops c)) S) (mem 0 M) (kop c i).op = none) (hc : evCall tb (evRS ((kop c i).looksAt (kops c)) S) (kop c i).op = some (g, vs))
    (hF : FC P g vs (mem 0 M) v (mem 0 M1)) (hn : Nat.beq M.length 0 = false) (hm : missB KT g vs M.length = true) (hst : stabM St M)
    (w : WZ ((g, vs, M.length) :: KT) (2 :: Kp) St (pp + 1) tb n N c (i + 1) (setS S dd v) (mem 0 M1) k Q) : WZ KT Kp St pp tb n N c i S (mem 0 M) k Q := by
  obtain ⟨K, cf', g1, g2, g3, g4⟩ := w
  have hne : ¬ M.length = 0 := fun e => by rw [e] at hn; cases hn
  refine ⟨2 :: K, oneCall g vs (mem 0 M) v (mem 0 M1) cf', by rwa [List.reverse_cons, List.append_assoc] at g1, good_one hF g2, fun g' vs' h' hr => ?_, fun cf ha => ?_⟩
  · unfold oneCall
    rw [if_neg]
    · exact g3 g' vs' h' hr
    · rintro ⟨_, _, e⟩
      rw [e] at hr; exact hr rfl
  · have hk1 : cf g vs (mem 0 M) = some (v, mem 0 M1) := by
      rw [ha g vs (mem 0 M) (fun _ => hm)]
      unfold oneCall; rw [if_pos ⟨rfl, rfl, rfl⟩]
    have hk2 : cf g vs ⟨(mem 0 M).next, (mem 0 M).next, (mem 0 M).m⟩ = none := by
      rw [ha g vs _ (fun e => absurd e hne)]
      unfold oneCall
      rw [if_neg (fun x => hne (by have := congrArg LH.ro x.2.2; exact this))]
      exact g3 _ _ _ hne
    refine WX.e hi hd hf hw ?_ ?_ (stabM_F hst) (g4 cf fun g' vs' h' hmm => ?_)
    · simp only [evQ, h0, h2, hc]
      split
      · rfl
      · rw [hk2]
    · simp only [evE, h3, hc, hk1]
    · have hmiss : h'.ro = 0 → missB KT g' vs' h'.next = true := fun e => by
        have := hmm e
        simp only [missB, Bool.and_eq_true] at this
        exact this.2
      rw [ha g' vs' h' hmiss]
      unfold oneCall
      rw [if_neg]
      rintro ⟨rfl, rfl, rfl⟩
      have := hmm rfl
      simp only [missB, Bool.and_eq_true] at this
      have h1 := this.1
      rw [show Nat.beq g' g' = true from Nat.beq_refl g', show Nat.beq M.length (mem 0 M).next = true from Nat.beq_refl _, beqL_self] at h1
      cases h1
theorem WZ.callM {g : FuncId} {vs vs' : List V} {M MM M1 : List (Option Blk)} (L : List Nat) (hg : FM P g vs M (fun u M' => u = v ∧ M' = M1)) (hi : Nat.blt i (kops c).toList.length = true) (hd : (kop c i).dst = some d) (hf : fitS n (kops c) (kop c i) S = true) (hw : wantS (kops c) (kop c i) S = true)
    (h0 : evP tb (evRS ((kop c i).looksAt (kops c)) S) (kop c i).op = none) (h2 : evR tb (evRS ((kop c i).looksAt (kops c)) S) (mem 0 MM) (kop c i).op = none) (h3 : evH tb (evRS ((kop c i).looksAt (kops c)) S) (mem 0 MM) (kop c i).op = none) (hc : evCall tb (evRS ((kop c i).looksAt (kops c)) S) (kop c i).op = some (g, vs'))
    (hvs : mapL (fun i => L.getD i 0) vs = vs') (hok : okL M.length vs) (hL : Nat.beq L.length M.length = true) (hp : embP (fun i => L.getD i 0) (mem 0 MM) M.length 0 M) (ho : own2 (fun i => L.getD i 0) M = true)
    (hn : Nat.beq MM.length 0 = false) (hm : missB KT g vs' MM.length = true) (hst : stabM St MM)
    (w : WZ ((g, vs', MM.length) :: KT) (2 :: Kp) St (pp + 1) tb n N c (i + 1) ((d, mapV (over (fun i => L.getD i 0) M.length MM.length) v) :: S) (mem 0 (plugL MM.length L M M1 MM)) k Q) : WZ KT Kp St pp tb n N c i S (mem 0 MM) k Q := by
  subst hvs
  exact WZ.call hi hd hf hw h0 h2 h3 hc (FC.explicit L hg hok hL hp ho) hn hm hst w
theorem WS.pdrawX (hm : P.follows .mixedOrders = true) (hk : kind c = 6) (hst : statB (kops c) = true) (w : WZ [] [] [] 0 tb n N c 0 S h k Q) : WS P n N (.c c :: k) (slt S) h Q := by
  obtain ⟨K, cf, hc, hg, _, w⟩ := w
  obtain ⟨D, t', h', g1, g2, g3, g5, g4⟩ := w cf fun _ _ _ _ => rfl
  unfold kind at hk
  split at hk <;> first | (cases hk; done) | skip
  next id ops =>
  rw [List.reverse_nil, List.nil_append] at hc
  simp only [drawOKX, Bool.and_eq_true] at hc
  refine WS.draw (tb := tb) (cf := cf) hm hg hst ?_ g4
  have hl : lexRun tb cf n ops ops.toList (slt S) h = some (D, t', h') := g1
  have he := g2 0
  unfold evDr
  rw [hl]
  simp only
  split
  · rfl
  · have h1 : chn (msks ops.toList []) (effs D 0) = true := by rw [chn_eq, he]; exact hc.1
    have h2 := g3 (effs D 0) (h :: (effs D 0).map (·.2)) (msks ops.toList []) (by simp) (by rw [he]; exact hc.2) (by rw [effs_mems]; rfl) (fun q x hq => absurd hq (Nat.not_lt_zero _))
    rw [h1]
    simp only [if_true]
    exact if_pos h2
end
section
variable {P : Program} {tb : Tb P} {n N : Nat} {k : List Fm} {c : Code} {S : List (Nat × V)} {h h1 : LH} {Q : Ex → T V → LH → Prop} {i d pp : Nat} {v v' : V} {St : StL} {KT : Keys} {Kp : List Nat} 
theorem WZ.kk (q : Nat) (_hk : opk (kop c i).op = q) (w : WZ KT Kp St pp tb n N c i S h k Q) : WZ KT Kp St pp tb n N c i S h k Q := w
theorem WZ.isD (w : WZ KT Kp St pp tb n N c i S h k Q) : WZ KT Kp St pp tb n N c i S h k Q := w
theorem WZ.lt (_h : Nat.blt i (kops c).toList.length = true) (w : WZ KT Kp St pp tb n N c i S h k Q) : WZ KT Kp St pp tb n N c i S h k Q := w
theorem WZ.gd (_h : gd (kop c i) = true) (w : WZ KT Kp St pp tb n N c i S h k Q) : WZ KT Kp St pp tb n N c i S h k Q := w
theorem WZ.kg (a b : Nat) (_h : (Nat.ble a (opk (kop c i).op) && Nat.ble (opk (kop c i).op) b) = true) (w : WZ KT Kp St pp tb n N c i S h k Q) : WZ KT Kp St pp tb n N c i S h k Q := w
theorem WZ.p (hi : Nat.blt i (kops c).toList.length = true) (hd : (kop c i).dst = some d) (hf : fitS n (kops c) (kop c i) S = true) (hw : wantS (kops c) (kop c i) S = true)
    (hs : evP tb (evRS ((kop c i).looksAt (kops c)) S) (kop c i).op = some v) (w : WZ KT (0 :: Kp) St pp tb n N c (i + 1) ((d, v) :: S) h k Q) : WZ KT Kp St pp tb n N c i S h k Q := WZ.p' hi hd hf hw hs w
theorem WZ.pW {kd : IntKind} {z : Int} (hi : Nat.blt i (kops c).toList.length = true) (hd : (kop c i).dst = some d) (hf : fitS n (kops c) (kop c i) S = true) (hw : wantS (kops c) (kop c i) S = true)
    (hs : evP tb (evRS ((kop c i).looksAt (kops c)) S) (kop c i).op = some (.i kd (wr kd z))) (h0 : lo kd ≤ z) (h2 : z ≤ Am.hi kd) (w : WZ KT (0 :: Kp) St pp tb n N c (i + 1) ((d, .i kd z) :: S) h k Q) : WZ KT Kp St pp tb n N c i S h k Q := by
  rw [wr_id h0 h2] at hs; exact WZ.p' hi hd hf hw hs w
theorem WZ.pP {l o o' : Nat} (hi : Nat.blt i (kops c).toList.length = true) (hd : (kop c i).dst = some d) (hf : fitS n (kops c) (kop c i) S = true) (hw : wantS (kops c) (kop c i) S = true)
    (hs : evP tb (evRS ((kop c i).looksAt (kops c)) S) (kop c i).op = some (.p (some (l, o)))) (ho : o = o') (w : WZ KT (0 :: Kp) St pp tb n N c (i + 1) ((d, .p (some (l, o'))) :: S) h k Q) : WZ KT Kp St pp tb n N c i S h k Q := by
  subst ho; exact WZ.p' hi hd hf hw hs w
theorem WZ.pB {x : Bool} (q : Bool) (hi : Nat.blt i (kops c).toList.length = true) (hd : (kop c i).dst = some d) (hf : fitS n (kops c) (kop c i) S = true) (hw : wantS (kops c) (kop c i) S = true)
    (hs : evP tb (evRS ((kop c i).looksAt (kops c)) S) (kop c i).op = some (.b x)) (hx : x = q) (w : WZ KT (0 :: Kp) St pp tb n N c (i + 1) ((d, .b q) :: S) h k Q) : WZ KT Kp St pp tb n N c i S h k Q := by
  subst hx; exact WZ.p' hi hd hf hw hs w
theorem WZ.no (hi : Nat.blt i (kops c).toList.length = true) (hd : (kop c i).dst = some d) (hf : fitS n (kops c) (kop c i) S = true) (hw : wantS (kops c) (kop c i) S = false)
    (w : WZ KT (0 :: Kp) St pp tb n N c (i + 1) ((d, .tup []) :: S) h k Q) : WZ KT Kp St pp tb n N c i S h k Q := WZ.no' hi hd hf hw w
theorem WZ.no0 (hi : Nat.blt i (kops c).toList.length = true) (hd : (kop c i).dst = none) (hf : fitS n (kops c) (kop c i) S = true) (hw : wantS (kops c) (kop c i) S = false)
    (w : WZ KT (0 :: Kp) St pp tb n N c (i + 1) S h k Q) : WZ KT Kp St pp tb n N c i S h k Q := WZ.no' hi hd hf hw w
theorem WZ.pA {l l' : List V} (hi : Nat.blt i (kops c).toList.length = true) (hd : (kop c i).dst = some d) (hf : fitS n (kops c) (kop c i) S = true) (hw : wantS (kops c) (kop c i) S = true)
    (hs : evP tb (evRS ((kop c i).looksAt (kops c)) S) (kop c i).op = some (.agg l)) (ho : l = l') (w : WZ KT (0 :: Kp) St pp tb n N c (i + 1) ((d, .agg l') :: S) h k Q) : WZ KT Kp St pp tb n N c i S h k Q := by
  subst ho; exact WZ.p' hi hd hf hw hs w
theorem WZ.pBS {x : Bool} (hi : Nat.blt i (kops c).toList.length = true) (hd : (kop c i).dst = some d) (hf : fitS n (kops c) (kop c i) S = true) (hw : wantS (kops c) (kop c i) S = true)
    (hs : evP tb (evRS ((kop c i).looksAt (kops c)) S) (kop c i).op = some (.b x)) (w1 : x = true → WZ KT (0 :: Kp) St pp tb n N c (i + 1) ((d, .b true) :: S) h k Q) (w2 : x = false → WZ KT (0 :: Kp) St pp tb n N c (i + 1) ((d, .b false) :: S) h k Q) : WZ KT Kp St pp tb n N c i S h k Q := by
  cases x with
  | true => exact WZ.p' hi hd hf hw hs (w1 rfl)
  | false => exact WZ.p' hi hd hf hw hs (w2 rfl)
theorem WZ.pV (hi : Nat.blt i (kops c).toList.length = true) (hd : (kop c i).dst = some d) (hf : fitS n (kops c) (kop c i) S = true) (hw : wantS (kops c) (kop c i) S = true)
    (hs : evP tb (evRS ((kop c i).looksAt (kops c)) S) (kop c i).op = some v) (ho : v = v') (w : WZ KT (0 :: Kp) St pp tb n N c (i + 1) ((d, v') :: S) h k Q) : WZ KT Kp St pp tb n N c i S h k Q := by
  subst ho; exact WZ.p' hi hd hf hw hs w
variable {p : Prop} [Decidable p] {a b : Int}
theorem WZ.pDT (hi : Nat.blt i (kops c).toList.length = true) (hd : (kop c i).dst = some d) (hf : fitS n (kops c) (kop c i) S = true) (hw : wantS (kops c) (kop c i) S = true) (hs : evP tb (evRS ((kop c i).looksAt (kops c)) S) (kop c i).op = some (.b (decide p))) (hp : p) (w : WZ KT (0 :: Kp) St pp tb n N c (i + 1) ((d, .b true) :: S) h k Q) : WZ KT Kp St pp tb n N c i S h k Q := by
  rw [decide_eq_true hp] at hs; exact WZ.p' hi hd hf hw hs w
theorem WZ.pDF (hi : Nat.blt i (kops c).toList.length = true) (hd : (kop c i).dst = some d) (hf : fitS n (kops c) (kop c i) S = true) (hw : wantS (kops c) (kop c i) S = true) (hs : evP tb (evRS ((kop c i).looksAt (kops c)) S) (kop c i).op = some (.b (decide p))) (hp : ¬ p) (w : WZ KT (0 :: Kp) St pp tb n N c (i + 1) ((d, .b false) :: S) h k Q) : WZ KT Kp St pp tb n N c i S h k Q := by
  rw [decide_eq_false hp] at hs; exact WZ.p' hi hd hf hw hs w
theorem WZ.pET (hi : Nat.blt i (kops c).toList.length = true) (hd : (kop c i).dst = some d) (hf : fitS n (kops c) (kop c i) S = true) (hw : wantS (kops c) (kop c i) S = true) (hs : evP tb (evRS ((kop c i).looksAt (kops c)) S) (kop c i).op = some (.b (a == b))) (hp : a = b) (w : WZ KT (0 :: Kp) St pp tb n N c (i + 1) ((d, .b true) :: S) h k Q) : WZ KT Kp St pp tb n N c i S h k Q := by
  rw [beq_iff_eq.2 hp] at hs; exact WZ.p' hi hd hf hw hs w
theorem WZ.pEF (hi : Nat.blt i (kops c).toList.length = true) (hd : (kop c i).dst = some d) (hf : fitS n (kops c) (kop c i) S = true) (hw : wantS (kops c) (kop c i) S = true) (hs : evP tb (evRS ((kop c i).looksAt (kops c)) S) (kop c i).op = some (.b (a == b))) (hp : ¬ a = b) (w : WZ KT (0 :: Kp) St pp tb n N c (i + 1) ((d, .b false) :: S) h k Q) : WZ KT Kp St pp tb n N c i S h k Q := by
  rw [beq_eq_false_iff_ne.2 hp] at hs; exact WZ.p' hi hd hf hw hs w
theorem WZ.pNT (hi : Nat.blt i (kops c).toList.length = true) (hd : (kop c i).dst = some d) (hf : fitS n (kops c) (kop c i) S = true) (hw : wantS (kops c) (kop c i) S = true) (hs : evP tb (evRS ((kop c i).looksAt (kops c)) S) (kop c i).op = some (.b (a != b))) (hp : ¬ a = b) (w : WZ KT (0 :: Kp) St pp tb n N c (i + 1) ((d, .b true) :: S) h k Q) : WZ KT Kp St pp tb n N c i S h k Q := by
  rw [bne_iff_ne.2 hp] at hs; exact WZ.p' hi hd hf hw hs w
theorem WZ.pNF (hi : Nat.blt i (kops c).toList.length = true) (hd : (kop c i).dst = some d) (hf : fitS n (kops c) (kop c i) S = true) (hw : wantS (kops c) (kop c i) S = true) (hs : evP tb (evRS ((kop c i).looksAt (kops c)) S) (kop c i).op = some (.b (a != b))) (hp : a = b) (w : WZ KT (0 :: Kp) St pp tb n N c (i + 1) ((d, .b false) :: S) h k Q) : WZ KT Kp St pp tb n N c i S h k Q := by
  rw [bne_eq_false_iff_eq.2 hp] at hs; exact WZ.p' hi hd hf hw hs w
theorem WZ.pDS (hi : Nat.blt i (kops c).toList.length = true) (hd : (kop c i).dst = some d) (hf : fitS n (kops c) (kop c i) S = true) (hw : wantS (kops c) (kop c i) S = true) (hs : evP tb (evRS ((kop c i).looksAt (kops c)) S) (kop c i).op = some (.b (decide p)))
    (w1 : p → WZ KT (0 :: Kp) St pp tb n N c (i + 1) ((d, .b true) :: S) h k Q) (w2 : ¬ p → WZ KT (0 :: Kp) St pp tb n N c (i + 1) ((d, .b false) :: S) h k Q) : WZ KT Kp St pp tb n N c i S h k Q := by
  by_cases hp : p
  · exact WZ.pDT hi hd hf hw hs hp (w1 hp)
  · exact WZ.pDF hi hd hf hw hs hp (w2 hp)
theorem WZ.pES (hi : Nat.blt i (kops c).toList.length = true) (hd : (kop c i).dst = some d) (hf : fitS n (kops c) (kop c i) S = true) (hw : wantS (kops c) (kop c i) S = true) (hs : evP tb (evRS ((kop c i).looksAt (kops c)) S) (kop c i).op = some (.b (a == b)))
    (w1 : a = b → WZ KT (0 :: Kp) St pp tb n N c (i + 1) ((d, .b true) :: S) h k Q) (w2 : ¬ a = b → WZ KT (0 :: Kp) St pp tb n N c (i + 1) ((d, .b false) :: S) h k Q) : WZ KT Kp St pp tb n N c i S h k Q := by
  by_cases hp : a = b
  · exact WZ.pET hi hd hf hw hs hp (w1 hp)
  · exact WZ.pEF hi hd hf hw hs hp (w2 hp)
theorem WZ.pNS (hi : Nat.blt i (kops c).toList.length = true) (hd : (kop c i).dst = some d) (hf : fitS n (kops c) (kop c i) S = true) (hw : wantS (kops c) (kop c i) S = true) (hs : evP tb (evRS ((kop c i).looksAt (kops c)) S) (kop c i).op = some (.b (a != b)))
    (w1 : ¬ a = b → WZ KT (0 :: Kp) St pp tb n N c (i + 1) ((d, .b true) :: S) h k Q) (w2 : a = b → WZ KT (0 :: Kp) St pp tb n N c (i + 1) ((d, .b false) :: S) h k Q) : WZ KT Kp St pp tb n N c i S h k Q := by
  by_cases hp : a = b
  · exact WZ.pNF hi hd hf hw hs hp (w2 hp)
  · exact WZ.pNT hi hd hf hw hs hp (w1 hp)
end
theorem cellsAt_part {kd : IntKind} {h : LH} {l o m : Nat} {xs : List Int} {E : TypeId} {q : Bool} (hb : h.get l = some ⟨cellsR (rwI kd) xs, E, q⟩) (hn : o + m ≤ xs.length) : cellsAt h l o m = some (cellsR (rwI kd) ((xs.drop o).take m)) := by
  have e1 : (cellsR (rwI kd) xs).drop o = cellsR (rwI kd) (xs.drop o) := by have := cellsR_drop (rwI kd) xs o; simpa [rwI] using this
  have e2 : (cellsR (rwI kd) (xs.drop o)).take m = cellsR (rwI kd) ((xs.drop o).take m) := by have := cellsR_take (rwI kd) (xs.drop o) m; simpa [rwI] using this
  simp only [cellsAt, hb, e1, e2]
  rw [if_pos (by rw [cellsR_len, List.length_take, List.length_drop, Nat.min_eq_left (by omega)]; simp [rwI])]
theorem cellsAt_rowG {α : Type} {R : Rw α} {h : LH} {l m : Nat} {xs : List α} {E : TypeId} {q : Bool} (hb : h.get l = some ⟨cellsR R xs, E, q⟩) (hm : m = xs.length * R.z) : cellsAt h l 0 m = some (cellsR R xs) := by
  subst hm
  simp only [cellsAt, hb, List.drop_zero]
  rw [List.take_of_length_le (by rw [cellsR_len]; exact Nat.le_refl _), if_pos (by rw [cellsR_len])]

def b32 (P : List Int) : List V := [.i .u8 (P.getD 0 0), .i .u8 (P.getD 1 0), .i .u8 (P.getD 2 0), .i .u8 (P.getD 3 0), .i .u8 (P.getD 4 0), .i .u8 (P.getD 5 0), .i .u8 (P.getD 6 0), .i .u8 (P.getD 7 0),
  .i .u8 (P.getD 8 0), .i .u8 (P.getD 9 0), .i .u8 (P.getD 10 0), .i .u8 (P.getD 11 0), .i .u8 (P.getD 12 0), .i .u8 (P.getD 13 0), .i .u8 (P.getD 14 0), .i .u8 (P.getD 15 0),
  .i .u8 (P.getD 16 0), .i .u8 (P.getD 17 0), .i .u8 (P.getD 18 0), .i .u8 (P.getD 19 0), .i .u8 (P.getD 20 0), .i .u8 (P.getD 21 0), .i .u8 (P.getD 22 0), .i .u8 (P.getD 23 0),
  .i .u8 (P.getD 24 0), .i .u8 (P.getD 25 0), .i .u8 (P.getD 26 0), .i .u8 (P.getD 27 0), .i .u8 (P.getD 28 0), .i .u8 (P.getD 29 0), .i .u8 (P.getD 30 0), .i .u8 (P.getD 31 0)]
theorem b32_eq (P : List Int) : b32 P = (List.range 32).map fun i => V.i .u8 (P.getD i 0) := rfl
theorem b32_get {P : List Int} {i : Nat} (h : i < 32) : (b32 P)[i]? = some (.i .u8 (P.getD i 0)) := by
  rw [b32_eq, List.getElem?_map, List.getElem?_range h]; rfl
theorem cells_b32 {P : List Int} (h : P.length = 32) : cellsR (rwI .u8) P = b32 P := by
  have e : cellsR (rwI .u8) P = P.map (V.i .u8) := by
    clear h
    induction P with
    | nil => rfl
    | cons x xs ih => simp only [cellsR, List.map_cons, List.flatten_cons] at ih ⊢; rw [ih]; rfl
  rw [e]
  apply List.ext_getElem?
  intro i
  by_cases hi : i < 32
  · rw [b32_get hi, List.getElem?_map, List.getElem?_eq_getElem (by omega), List.getD_eq_getElem?_getD, List.getElem?_eq_getElem (by omega)]; rfl
  · rw [List.getElem?_eq_none (by simp; omega), List.getElem?_eq_none (by show 32 ≤ i; omega)]
theorem b32_set {P : List Int} {i : Nat} {x : Int} (h : i < 32) (hP : P.length = 32) : (b32 P).set i (.i .u8 x) = b32 (P.set i x) := by
  apply List.ext_getElem?
  intro j
  by_cases hj : j < 32
  · rw [List.getElem?_set, b32_get hj, b32_get hj]
    have hl : (b32 P).length = 32 := rfl
    by_cases e : i = j
    · subst e
      rw [if_pos rfl, if_pos (by omega), List.getD_eq_getElem?_getD, List.getElem?_set_self (by omega)]; rfl
    · rw [if_neg e, List.getD_eq_getElem?_getD, List.getD_eq_getElem?_getD, List.getElem?_set_ne e]
  · rw [List.getElem?_eq_none (by rw [List.length_set]; show 32 ≤ j; omega), List.getElem?_eq_none (by show 32 ≤ j; omega)]
theorem okL_b32 (n : Nat) (P : List Int) : okL n (b32 P) := by simp [b32, okL, okV]
theorem mapL_b32 (s : Nat → Nat) (P : List Int) : mapL s (b32 P) = b32 P := mapL_plain s _ (okL_b32 0 P)
@[simp] theorem b32_nil (P : List Int) : (b32 P = []) = False := by simp [b32]
theorem b32_take (P : List Int) : (b32 P).take 32 = b32 P := rfl
theorem b32_len (P : List Int) : (b32 P).length = 32 := rfl
theorem b32_inj {P Q : List Int} (hP : P.length = 32) (hQ : Q.length = 32) (h : b32 P = b32 Q) : P = Q := by
  apply List.ext_getElem (by omega)
  intro i h1 h2
  have : (b32 P)[i]? = (b32 Q)[i]? := by rw [h]
  rw [b32_get (by omega), b32_get (by omega), List.getD_eq_getElem?_getD, List.getD_eq_getElem?_getD, List.getElem?_eq_getElem h1, List.getElem?_eq_getElem h2] at this
  simpa using this
theorem setL_whole {α : Type} {xs ys : List α} (h : ys.length = xs.length) : setL xs 0 ys = ys := by
  rw [setL_eq _ _ _ (by omega)]; simp [h]
theorem setL_tail {α : Type} {pre xs ys : List α} (h : ys.length = xs.length) : setL (pre ++ xs) pre.length ys = pre ++ ys := by
  rw [setL_eq _ _ _ (by simp; omega)]; simp [h]
theorem strOf_all (b : ByteArray) : ∃ xs : List Int, Byt xs ∧ b = strOf xs := by
  refine ⟨b.data.toList.map fun x => (x.toNat : Int), ?_, ?_⟩
  · intro x hx
    obtain ⟨y, _, rfl⟩ := List.mem_map.1 hx
    have := y.toNat_lt
    exact ⟨by omega, by simp at *; omega⟩
  · apply ByteArray.ext
    apply Array.ext'
    rw [strOf_data, List.map_map]
    have : ((fun x : Int => UInt8.ofNat x.toNat) ∘ fun x : UInt8 => (x.toNat : Int)) = id := by funext x; simp
    rw [this, List.map_id]
section
variable {P : Program} {tb : Tb P} {h : LH} {e : Operand → Option V} {op : Op}
theorem evP_sidx {T : TypeId} {x ix : Operand} {kd : IntKind} {i y : Int} {j : Nat} {xs : List Int} (hop : op = .index T x ix) (hx : e x = some (.s (strOf xs))) (hi : e ix = some (.i kd i)) (hu : tb.und T = some .string) (hj : i = (j : Int)) (hy : xs[j]? = some y) (hb : Byt xs) :
    evP tb e op = some (.i .u8 y) := by
  subst hop; subst hj
  simp only [evP, hx, hi, ixV, hu]
  rw [if_pos (by omega)]
  have hl : j < xs.length := (List.getElem?_eq_some_iff.1 hy).1
  have hs : j < (strOf xs).size := by rw [strOf_size]; exact hl
  have h2 : (strOf xs)[(j : Int).toNat]? = some (UInt8.ofNat y.toNat) := by
    show (strOf xs)[j]? = _
    rw [getElem?_pos (strOf xs) j hs]
    congr 1
    have h3 : (strOf xs).data.toList[j]? = some (UInt8.ofNat y.toNat) := by rw [strOf_data, List.getElem?_map, hy]; rfl
    have h4 : (strOf xs)[j] = (strOf xs).data[j] := rfl
    rw [h4]
    rw [Array.getElem?_toList, Array.getElem?_eq_getElem (by exact hs)] at h3
    exact Option.some.inj h3
  rw [h2]
  have := hb y (List.mem_of_getElem? hy)
  simp only [UInt8.toNat_ofNat']
  congr 2
  omega
theorem evP_build {T : TypeId} {ps : Array (Nat × Operand)} {l : List (Nat × V)} {v : V} (hop : op = .build T ps) (hl : evPs e ps.toList = some l) (hb : bdStruct tb T l = some v) : evP tb e op = some v := by
  subst hop; simp only [evP, hl, hb]
theorem evP_indexA {T E : TypeId} {x ix : Operand} {l o len z j : Nat} {kd : IntKind} {i : Int} (hop : op = .indexAddr T x ix) (hx : e x = some (.p (some (l, o)))) (hi : e ix = some (.i kd i))
    (hu : tb.und T = some (.array len E)) (hz : tb.sz E = some z) (hj : i = (j : Int)) (hl : j < len) : evP tb e op = some (.p (some (l, o + j * z))) := by
  subst hop; subst hj
  simp only [evP, hx, hi, iaV, hu, hz]
  rw [if_pos (by omega), if_pos (by omega)]; simp
theorem evR_cnt {f : Operand} {x y : Operand} {b : Array TypeId} {g : FuncId} {l o m cap : Nat} {q : Bool} {c : Int} {xs : List Int} (hop : op = .call ⟨.value f, #[x, y], b⟩) (hf : e f = some (.fn g [])) (hg : tb.cnt g = true) (hx : e x = some (.sl (some (l, o)) m cap q)) (hy : e y = some (.i .u8 c))
    (hc : cellsAt h l o m = some (cellsR (rwI .u8) xs)) (hl : xs.length = m) : evR tb e h op = some (.i .i64 (countB c.toNat.toUInt8 (xs.map fun n => n.toNat.toUInt8))) := by
  subst hop
  simp only [evR, hf, hg, evLs, hx, hy, cntV, rowV]
  by_cases h0 : m = 0
  · obtain rfl : xs = [] := List.length_eq_zero_iff.1 (by omega)
    rw [if_pos h0]; rfl
  · rw [if_neg h0]
    simp only [hc, bytesV_R]
theorem evR_cnt0 {f : Operand} {x y : Operand} {b : Array TypeId} {g : FuncId} {m cap : Nat} {q : Bool} {c : Int} (hop : op = .call ⟨.value f, #[x, y], b⟩) (hf : e f = some (.fn g [])) (hg : tb.cnt g = true) (hx : e x = some (.sl none m cap q)) (hy : e y = some (.i .u8 c)) : evR tb e h op = some (.i .i64 0) := by
  subst hop
  simp only [evR, hf, hg, evLs, hx, hy, cntV, rowV]; rfl
theorem evH_copyS {T U E E' : TypeId} {x y : Operand} {l o len cap : Nat} {q : Bool} {s : ByteArray} {ys : List Int} {c : List V} (hop : op = .call ⟨.builtin .copy, #[x, y], #[T, U]⟩) (hx : e x = some (.sl (some (l, o)) len cap q)) (hy : e y = some (.s s)) (hs : s = strOf ys) (hb : Byt ys)
    (hu : tb.und T = some (.slice E)) (hz : tb.sz E = some 1) (hl : ys.length ≤ len) (h0 : 0 < ys.length) (hg : h.get l = some ⟨c, E', true⟩) (hr : h.ro ≤ l) (ho : o + ys.length ≤ c.length) :
    evH tb e h op = some (.i .i64 ys.length, h.upd l (some ⟨setL c o (cellsR (rwI .u8) ys), E', true⟩)) := by
  subst hop; subst hs
  have hl2 : evLs e [x, y] = some [.sl (some (l, o)) len cap q, .s (strOf ys)] := by simp only [evLs, hx, hy]
  have hk : Nat.min (strOf ys).size len = ys.length := by rw [strOf_size]; exact Nat.min_eq_left hl
  have he : (strOf ys).extract 0 ys.length = strOf ys := by
    apply ByteArray.ext
    have hz2 : (strOf ys).data.size = ys.length := strOf_size ys
    rw [ByteArray.data_extract]
    apply Array.ext'
    simp only [Array.toList_extract, List.extract_eq_take_drop, List.drop_zero, Nat.sub_zero]
    exact List.take_of_length_le (by rw [Array.length_toList, hz2]; exact Nat.le_refl _)
  have hf : firstV h 1 ys.length (.s (strOf ys)) = some (cellsR (rwI .u8) ys) := by
    simp only [firstV, he, strOf_cells hb]
  have hln : (cellsR (rwI .u8) ys).length = ys.length := cellsI_len _ _
  have hne : cellsR (rwI .u8) ys ≠ [] := fun e => by rw [e] at hln; simp at hln; omega
  simp only [evH, hl2, cpV, hu, hz, lnV, hk, hf, stL_put (cellsR (rwI .u8) ys) h l o c E' hg hr (allI _ _) (by rw [hln]; exact ho) hne]
theorem ldV_ag {T : TypeId} {l o z : Nat} {b : Blk} {vs : List V} (ha : isAgg tb T = some true) (hz : tb.sz T = some z) (hb : h.get l = some b) (hv : (b.cells.drop o).take z = vs) (hl : vs.length = z) : ldV tb h T (.p (some (l, o))) = some (.agg vs) := by
  simp only [ldV, ha, hz, cellsAt, hb, hv, hl, if_true, Option.map_some]
theorem resV1 {t : T V} {a l z : Nat} {T : TypeId} {b : Blk} (ht : t.get a = some (.p (some (l, 0)))) (ha : isAgg tb T = some true) (hz : tb.sz T = some z) (hb : h.get l = some b) (hl : b.cells.length = z) : resV tb t h [.cell a T] = some (.agg b.cells) := by
  have := ldV_ag (tb := tb) (h := h) (vs := b.cells) (o := 0) ha hz hb (by rw [List.drop_zero, ← hl, List.take_length]) hl
  simp only [resV, resL, ht, this]
theorem resV2 {t : T V} {a l z k : Nat} {T : TypeId} {b : Blk} {v : V} (ht : t.get a = some (.p (some (l, 0)))) (hk : t.get k = some v) (ha : isAgg tb T = some true) (hz : tb.sz T = some z) (hb : h.get l = some b) (hl : b.cells.length = z) : resV tb t h [.cell a T, .tmp k] = some (.tup [.agg b.cells, v]) := by
  have := ldV_ag (tb := tb) (h := h) (vs := b.cells) (o := 0) ha hz hb (by rw [List.drop_zero, ← hl, List.take_length]) hl
  simp only [resV, resL, ht, hk, this]
end
theorem countB_le (c : UInt8) : ∀ l, countB c l ≤ l.length
  | [] => Nat.le_refl _
  | b :: l => by simp only [countB, List.length_cons]; have := countB_le c l; split <;> omega
theorem countB_all (c : UInt8) : ∀ l, countB c l = l.length ↔ ∀ x ∈ l, x = c
  | [] => by simp [countB]
  | b :: l => by
    simp only [countB, List.length_cons, List.mem_cons, forall_eq_or_imp, ← countB_all c l]
    have := countB_le c l
    by_cases e : b = c
    · subst e; simp; omega
    · have : (b == c) = false := by simpa using e
      rw [this]; simp [e]; omega
theorem countI_all {c : Int} {xs : List Int} (hb : Byt xs) (hc : 0 ≤ c ∧ c ≤ 255) : countB c.toNat.toUInt8 (xs.map fun n => n.toNat.toUInt8) = xs.length ↔ ∀ x ∈ xs, x = c := by
  have := countB_all c.toNat.toUInt8 (xs.map fun n => n.toNat.toUInt8)
  rw [List.length_map] at this
  rw [this]
  constructor
  · intro h x hx
    have h1 := h _ (List.mem_map_of_mem hx)
    have h2 := congrArg UInt8.toNat h1
    have h3 := hb x hx
    simp only [Nat.toUInt8, UInt8.toNat_ofNat'] at h2
    omega
  · intro h y hy
    obtain ⟨x, hx, rfl⟩ := List.mem_map.1 hy
    rw [h x hx]
theorem countI_le (c : UInt8) (xs : List Int) : countB c (xs.map fun n => n.toNat.toUInt8) ≤ xs.length := by
  have := countB_le c (xs.map fun n => n.toNat.toUInt8)
  simpa using this

end Go.Proofs.Ytnogdgdkeojlpaa.Am
