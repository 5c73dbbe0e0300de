/- The abstract machine, part 1: its values and its memory, what they come to in a world, the plain operations. No conditions beyond those of each theorem. -/
import Derived.Orders
import Derived.Tactics
import Derived.LoopN
import Derived.Below
import Derived.WalkKit
import Derived.Deep.Quiet
import Derived.ChangeKeysEq
import Derived.Great.BuildSlice
import Derived.Laws.MakeOwn
set_option linter.unusedSimpArgs false
set_option linter.unusedVariables false
namespace Go.Proofs.Ytnogdgdkeojlpaa.Am
open Go.RowKit (Below)

/-! ### Who waits for whom -/
def msk (acc : List Nat) (o : Oper) : Nat := o.after.toList.foldl (fun s e => if Region.binds .any e then s ||| 2 ^ e.on ||| acc.getD e.on 0 else s) 0
def msks : List Oper → List Nat → List Nat
  | [], acc => acc
  | o :: l, acc => msks l (acc ++ [msk acc o])

theorem fold_bit (acc : List Nat) (j : Nat) : ∀ (l : List Edge) (s : Nat), (l.foldl (fun s e => if Region.binds .any e then s ||| 2 ^ e.on ||| acc.getD e.on 0 else s) s).testBit j = true →
    s.testBit j = true ∨ ∃ e ∈ l, Region.binds .any e = true ∧ (e.on = j ∨ (acc.getD e.on 0).testBit j = true)
  | [], s, h => .inl h
  | e :: l, s, h => by
    simp only [List.foldl_cons] at h
    rcases fold_bit acc j l _ h with h1 | ⟨e', he', h1⟩
    · split at h1
      · next hb =>
        rw [Nat.testBit_or, Nat.testBit_or, Bool.or_eq_true, Bool.or_eq_true] at h1
        rcases h1 with (h1 | h1) | h1
        · exact .inl h1
        · rw [Nat.testBit_two_pow] at h1
          exact .inr ⟨e, List.mem_cons_self .., hb, .inl (by simpa using h1)⟩
        · exact .inr ⟨e, List.mem_cons_self .., hb, .inr h1⟩
      · exact .inl h1
    · exact .inr ⟨e', List.mem_cons_of_mem _ he', h1⟩
theorem msk_bit {acc : List Nat} {o : Oper} {j : Nat} (h : (msk acc o).testBit j = true) : ∃ e ∈ o.after, Region.binds .any e = true ∧ (e.on = j ∨ (acc.getD e.on 0).testBit j = true) := by
  rcases fold_bit acc j _ _ h with h | ⟨e, he, h⟩
  · simp at h
  · exact ⟨e, by simpa using he, h⟩

theorem msks_get : ∀ (l : List Oper) (acc : List Nat), (∀ i, i < acc.length → (msks l acc)[i]? = acc[i]?) ∧
    ∀ j o, l[j]? = some o → ∃ acc', (msks l acc)[acc.length + j]? = some (msk acc' o) ∧ acc'.length = acc.length + j ∧ ∀ i, i < acc'.length → (msks l acc)[i]? = acc'[i]?
  | [], acc => ⟨fun _ _ => rfl, fun j o h => by simp at h⟩
  | x :: l, acc => by
    obtain ⟨h1, h2⟩ := msks_get l (acc ++ [msk acc x])
    refine ⟨fun i hi => ?_, fun j o h => ?_⟩
    · simp only [msks]
      rw [h1 i (by simp; omega), List.getElem?_append_left hi]
    · simp only [msks]
      cases j with
      | zero =>
        simp only [List.getElem?_cons_zero, Option.some.injEq] at h
        subst h
        refine ⟨acc, ?_, rfl, fun i hi => ?_⟩
        · rw [Nat.add_zero, h1 _ (by simp)]; simp
        · rw [h1 i (by simp; omega), List.getElem?_append_left hi]
      | succ j =>
        obtain ⟨acc', h3, h4, h5⟩ := h2 j o (by simpa using h)
        refine ⟨acc', ?_, by rw [h4]; simp; omega, h5⟩
        rw [← h3]; congr 1; simp; omega

def anc (ops : Array Oper) (i j : Nat) : Bool := ((msks ops.toList []).getD i 0).testBit j
theorem anc_spec {ops : Array Oper} {i j : Nat} {o : Oper} (ho : ops[i]? = some o) (hb : ∀ e ∈ o.after, Region.binds .any e = true → e.on < i) (h : anc ops i j = true) :
    ∃ e ∈ o.after, Region.binds .any e = true ∧ (e.on = j ∨ anc ops e.on j = true) := by
  obtain ⟨acc', h3, h4, h5⟩ := (msks_get ops.toList []).2 i o (by simpa using ho)
  simp only [List.length_nil, Nat.zero_add] at h3 h4
  unfold anc at h
  rw [List.getD_eq_getElem?_getD, h3, Option.getD_some] at h
  obtain ⟨e, he, hbe, h6⟩ := msk_bit h
  refine ⟨e, he, hbe, h6.imp id fun h7 => ?_⟩
  unfold anc
  rw [List.getD_eq_getElem?_getD, h5 _ (by rw [h4]; exact hb e he hbe), ← List.getD_eq_getElem?_getD]
  exact h7

/-- What is asked of a region's text. -/
def statB (ops : Array Oper) : Bool :=
  (ops.toList.zipIdx.all fun x => x.1.after.all fun e => !Region.binds .any e || decide (e.on < x.2)) &&
  ops.toList.zipIdx.all fun x => ops.toList.zipIdx.all fun y => !decide (y.2 < x.2) || anc ops x.2 y.2 || y.1.apart ops x.1

theorem mem_zip {ops : Array Oper} {i : Nat} {o : Oper} (h : ops[i]? = some o) : (o, i) ∈ ops.toList.zipIdx := by
  rw [List.mem_zipIdx_iff_getElem?]; simpa using h
theorem statB_back {ops : Array Oper} (h : statB ops = true) {i : Nat} {o : Oper} (ho : ops[i]? = some o) : ∀ e ∈ o.after, Region.binds .any e = true → e.on < i := fun e he hb => by
  unfold statB at h
  rw [Bool.and_eq_true] at h
  have := List.all_eq_true.1 h.1 _ (mem_zip ho)
  have := Array.all_eq_true'.1 this e he
  simpa [hb] using this
theorem statB_apart {ops : Array Oper} (h : statB ops = true) {i j : Nat} {o o' : Oper} (ho : ops[i]? = some o) (ho' : ops[j]? = some o') (hj : j < i) : anc ops i j = true ∨ o'.apart ops o = true := by
  unfold statB at h
  rw [Bool.and_eq_true] at h
  have := List.all_eq_true.1 (List.all_eq_true.1 h.2 _ (mem_zip ho)) _ (mem_zip ho')
  simpa [hj] using this

/-- What is closed under waiting. -/
def Closed (ops : Array Oper) (p : Nat → Bool) : Prop := ∀ i o, ops[i]? = some o → p i = true → ∀ e ∈ o.after, Region.binds .any e = true → p e.on = true
theorem Closed.anc {ops : Array Oper} {p : Nat → Bool} (hs : statB ops = true) (hc : Closed ops p) : ∀ (i : Nat), i < ops.size → ∀ j, anc ops i j = true → p i = true → p j = true := by
  intro i
  induction i using Nat.strongRecOn with
  | _ i ih =>
    intro hi j ha hp
    have ho : ops[i]? = some ops[i] := Array.getElem?_eq_getElem hi
    obtain ⟨e, he, hb, h⟩ := anc_spec ho (statB_back hs ho) ha
    have hlt := statB_back hs ho e he hb
    have hpe := hc i _ ho hp e he hb
    rcases h with h | h
    · rw [← h]; exact hpe
    · exact ih e.on hlt (by omega) j h hpe
theorem anc_lt {ops : Array Oper} (hs : statB ops = true) {i j : Nat} (hi : i < ops.size) (h : anc ops i j = true) : j < i := by
  have hc : Closed ops (fun q => decide (q < i)) := fun q o ho hq e he hb => by
    have := statB_back hs ho e he hb
    simp only [decide_eq_true_eq] at hq ⊢; omega
  have ho : ops[i]? = some ops[i] := Array.getElem?_eq_getElem hi
  obtain ⟨e, he, hb, h⟩ := anc_spec ho (statB_back hs ho) h
  have hlt := statB_back hs ho e he hb
  rcases h with h | h
  · omega
  · have := hc.anc hs e.on (by omega) j h (by simpa using hlt)
    simpa using this

/-- What is asked of a function's text. -/
def codeB : Code → Bool
  | .region _ ops true => statB ops
  | .seq a b => codeB a && codeB b
  | .cond _ a b => codeB a && codeB b
  | .block _ b => codeB b
  | .loop b => codeB b
  | _ => true

inductive V where
  | b (x : Bool)
  | i (k : IntKind) (n : Int)
  | s (x : ByteArray)
  | p (a : Option (Nat × Nat))
  | sl (a : Option (Nat × Nat)) (n c : Nat) (o : Bool)
  | fn (f : FuncId) (cs : List V)
  | nf
  | ifc (t : TypeId) (v : V)
  | nif
  | agg (l : List V)
  | tup (l : List V)

/-- Where a block lies, and how many elements stand behind those that are known. -/
abbrev Rho := Nat → Addr × Nat

mutual
def con (r : Rho) : V → Value
  | .b x => .bool x
  | .i k n => .int k n
  | .s x => .string x
  | .p none => .pointer none
  | .p (some (l, o)) => .pointer (some ((r l).1.add o))
  | .sl none n c _ => .slice none n c
  | .sl (some (l, o)) n c op => .slice (some ((r l).1.add o)) n (if op then c + (r l).2 else c)
  | .fn f cs => .func (.func f) #[] (conL r cs).toArray
  | .nf => .nilFunc
  | .ifc t v => .iface t (con r v)
  | .nif => .nilIface
  | .agg l => .agg (conL r l).toArray
  | .tup l => .tuple (conL r l).toArray
def conL (r : Rho) : List V → List Value
  | [] => []
  | v :: l => con r v :: conL r l
end

theorem conL_eq (r : Rho) (l : List V) : conL r l = l.map (con r) := by
  induction l with
  | nil => rfl
  | cons v l ih => simp [conL, ih]

mutual
/-- All block numbers in a value are below n. -/
def okV (n : Nat) : V → Prop
  | .p (some (l, _)) => l < n
  | .sl (some (l, _)) _ _ _ => l < n
  | .fn _ cs => okL n cs
  | .ifc _ v => okV n v
  | .agg l => okL n l
  | .tup l => okL n l
  | _ => True
def okL (n : Nat) : List V → Prop
  | [] => True
  | v :: l => okV n v ∧ okL n l
end

theorem okL_iff (n : Nat) (l : List V) : okL n l ↔ ∀ v ∈ l, okV n v := by
  induction l with
  | nil => simp [okL]
  | cons v l ih => simp [okL, ih]

def Ext (n : Nat) (r r' : Rho) : Prop := ∀ l, l < n → r' l = r l
theorem Ext.refl (n : Nat) (r : Rho) : Ext n r r := fun _ _ => rfl
theorem Ext.trans {n m : Nat} {r r' r'' : Rho} (h : Ext n r r') (hn : n ≤ m) (h' : Ext m r' r'') : Ext n r r'' :=
  fun l hl => (h' l (Nat.lt_of_lt_of_le hl hn)).trans (h l hl)
theorem Ext.mono {n m : Nat} {r r' : Rho} (h : Ext m r r') (hn : n ≤ m) : Ext n r r' := fun l hl => h l (Nat.lt_of_lt_of_le hl hn)

mutual
theorem con_ext {n : Nat} {r r' : Rho} (h : Ext n r r') : ∀ v, okV n v → con r' v = con r v
  | .b _, _ => rfl
  | .i _ _, _ => rfl
  | .s _, _ => rfl
  | .p none, _ => rfl
  | .p (some (l, o)), hv => by simp only [okV] at hv; simp [con, h l hv]
  | .sl none _ _ _, _ => rfl
  | .sl (some (l, o)) _ _ _, hv => by simp only [okV] at hv; simp [con, h l hv]
  | .fn f cs, hv => by simp only [okV] at hv; simp [con, conL_ext h cs hv]
  | .nf, _ => rfl
  | .ifc t v, hv => by simp only [okV] at hv; simp [con, con_ext h v hv]
  | .nif, _ => rfl
  | .agg l, hv => by simp only [okV] at hv; simp [con, conL_ext h l hv]
  | .tup l, hv => by simp only [okV] at hv; simp [con, conL_ext h l hv]
theorem conL_ext {n : Nat} {r r' : Rho} (h : Ext n r r') : ∀ l, okL n l → conL r' l = conL r l
  | [], _ => rfl
  | v :: l, hv => by simp only [okL] at hv; simp [conL, con_ext h v hv.1, conL_ext h l hv.2]
end
mutual
theorem okV_mono {n m : Nat} (h : n ≤ m) : ∀ v, okV n v → okV m v
  | .b _, _ => trivial
  | .i _ _, _ => trivial
  | .s _, _ => trivial
  | .p none, _ => trivial
  | .p (some (l, o)), hv => by simp only [okV] at hv ⊢; omega
  | .sl none _ _ _, _ => trivial
  | .sl (some (l, o)) _ _ _, hv => by simp only [okV] at hv ⊢; omega
  | .fn f cs, hv => by simp only [okV] at hv ⊢; exact okL_mono h cs hv
  | .nf, _ => trivial
  | .ifc t v, hv => by simp only [okV] at hv ⊢; exact okV_mono h v hv
  | .nif, _ => trivial
  | .agg l, hv => by simp only [okV] at hv ⊢; exact okL_mono h l hv
  | .tup l, hv => by simp only [okV] at hv ⊢; exact okL_mono h l hv
theorem okL_mono {n m : Nat} (h : n ≤ m) : ∀ l, okL n l → okL m l
  | [], _ => trivial
  | v :: l, hv => ⟨okV_mono h v hv.1, okL_mono h l hv.2⟩
end

/-! A map from numbers, quick in the kernel. -/
inductive T (α : Type) where
  | e
  | n (l : T α) (v : Option α) (r : T α)

def T.get {α : Type} : T α → Nat → Option α
  | .e, _ => none
  | .n l v r, k => match k with
    | 0 => v
    | k + 1 => match Nat.beq (k % 2) 0 with
      | true => l.get (k / 2)
      | false => r.get (k / 2)

def T.setF {α : Type} : Nat → T α → Nat → Option α → T α
  | 0, t, _, _ => t
  | f + 1, .e, k, v => match k with
    | 0 => .n .e v .e
    | k + 1 => match Nat.beq (k % 2) 0 with
      | true => .n (T.setF f .e (k / 2) v) none .e
      | false => .n .e none (T.setF f .e (k / 2) v)
  | f + 1, .n l x r, k, v => match k with
    | 0 => .n l v r
    | k + 1 => match Nat.beq (k % 2) 0 with
      | true => .n (T.setF f l (k / 2) v) x r
      | false => .n l x (T.setF f r (k / 2) v)
def T.put {α : Type} (t : T α) (k : Nat) (v : Option α) : T α := T.setF (k + 1) t k v

theorem beq_zero (n : Nat) : Nat.beq n 0 = true ↔ n = 0 := by cases n <;> simp [Nat.beq]
theorem T.get_setF {α : Type} : ∀ (f : Nat) (t : T α) (k : Nat) (v : Option α) (j : Nat), k < f → (T.setF f t k v).get j = if j = k then v else t.get j
  | 0, _, _, _, _, h => absurd h (Nat.not_lt_zero _)
  | f + 1, .e, 0, v, j, _ => by
    cases j with
    | zero => simp [T.setF, T.get]
    | succ j => simp only [T.setF, T.get]; split <;> simp
  | f + 1, .e, k + 1, v, j, h => by
    have ih := T.get_setF f (.e : T α) (k / 2) v
    cases j with
    | zero => simp only [T.setF]; split <;> simp [T.get]
    | succ j =>
      simp only [T.setF]
      split
      · next hk =>
        have hk := (beq_zero _).1 hk
        simp only [T.get]
        split
        · next hj =>
          have hj := (beq_zero _).1 hj
          rw [ih _ (by omega)]
          by_cases e : j = k
          · subst e; simp
          · rw [if_neg (by omega), if_neg (by omega)]; rfl
        · next hj =>
          have hj : ¬ j % 2 = 0 := fun e => by rw [(beq_zero _).2 e] at hj; cases hj
          rw [if_neg (by omega)]
      · next hk =>
        have hk : ¬ k % 2 = 0 := fun e => by rw [(beq_zero _).2 e] at hk; cases hk
        simp only [T.get]
        split
        · next hj =>
          have hj := (beq_zero _).1 hj
          rw [if_neg (by omega)]
        · next hj =>
          have hj : ¬ j % 2 = 0 := fun e => by rw [(beq_zero _).2 e] at hj; cases hj
          rw [ih _ (by omega)]
          by_cases e : j = k
          · subst e; simp
          · rw [if_neg (by omega), if_neg (by omega)]; rfl
  | f + 1, .n l x r, 0, v, j, _ => by
    cases j with
    | zero => simp [T.setF, T.get]
    | succ j => simp only [T.setF, T.get]; simp
  | f + 1, .n l x r, k + 1, v, j, h => by
    have ih := T.get_setF f l (k / 2) v
    have ih' := T.get_setF f r (k / 2) v
    cases j with
    | zero => simp only [T.setF]; split <;> simp [T.get]
    | succ j =>
      simp only [T.setF]
      split
      · next hk =>
        have hk := (beq_zero _).1 hk
        simp only [T.get]
        split
        · next hj =>
          have hj := (beq_zero _).1 hj
          rw [ih _ (by omega)]
          by_cases e : j = k
          · subst e; simp
          · rw [if_neg (by omega), if_neg (by omega)]
        · next hj =>
          have hj : ¬ j % 2 = 0 := fun e => by rw [(beq_zero _).2 e] at hj; cases hj
          rw [if_neg (by omega)]
      · next hk =>
        have hk : ¬ k % 2 = 0 := fun e => by rw [(beq_zero _).2 e] at hk; cases hk
        simp only [T.get]
        split
        · next hj =>
          have hj := (beq_zero _).1 hj
          rw [if_neg (by omega)]
        · next hj =>
          have hj : ¬ j % 2 = 0 := fun e => by rw [(beq_zero _).2 e] at hj; cases hj
          rw [ih' _ (by omega)]
          by_cases e : j = k
          · subst e; simp
          · rw [if_neg (by omega), if_neg (by omega)]
theorem T.get_put {α : Type} (t : T α) (k : Nat) (v : Option α) (j : Nat) : (t.put k v).get j = if j = k then v else t.get j :=
  T.get_setF _ _ _ _ _ (Nat.lt_succ_self _)

/-- An element of a list, in steps of sixteen and of four. -/
def skip16 {α : Type} : List α → Option (List α)
  | _ :: _ :: _ :: _ :: _ :: _ :: _ :: _ :: _ :: _ :: _ :: _ :: _ :: _ :: _ :: _ :: l => some l
  | _ => none
def skip4 {α : Type} : List α → Option (List α)
  | _ :: _ :: _ :: _ :: l => some l
  | _ => none
theorem skip16_some {α : Type} {l l' : List α} (h : skip16 l = some l') (n : Nat) : l[n + 16]? = l'[n]? := by
  unfold skip16 at h; split at h
  · injection h with h; subst h; simp
  · cases h
theorem skip4_some {α : Type} {l l' : List α} (h : skip4 l = some l') (n : Nat) : l[n + 4]? = l'[n]? := by
  unfold skip4 at h; split at h
  · injection h with h; subst h; simp
  · cases h
def nthF {α : Type} : Nat → List α → Nat → Option α
  | 0, l, n => l[n]?
  | f + 1, l, n => match Nat.ble 16 n with
    | true => match skip16 l with
      | some l' => nthF f l' (n - 16)
      | none => l[n]?
    | false => match Nat.ble 4 n with
      | true => match skip4 l with
        | some l' => nthF f l' (n - 4)
        | none => l[n]?
      | false => l[n]?
theorem nthF_eq {α : Type} : ∀ (f : Nat) (l : List α) (n : Nat), nthF f l n = l[n]?
  | 0, _, _ => rfl
  | f + 1, l, n => by
    simp only [nthF]
    split
    · next h =>
      have h := Nat.le_of_ble_eq_true h
      split
      · next l' hl =>
        rw [nthF_eq f l' (n - 16), ← skip16_some hl, show n - 16 + 16 = n by omega]
      · rfl
    · split
      · next h =>
        have h := Nat.le_of_ble_eq_true h
        split
        · next l' hl =>
          rw [nthF_eq f l' (n - 4), ← skip4_some hl, show n - 4 + 4 = n by omega]
        · rfl
      · rfl

/-- An element set anew, in steps of sixteen. -/
def setNF {α : Type} : Nat → List α → Nat → α → List α
  | 0, l, n, v => l.set n v
  | f + 1, l, n, v => match Nat.ble 16 n with
    | true => match l with
      | x0 :: x1 :: x2 :: x3 :: x4 :: x5 :: x6 :: x7 :: x8 :: x9 :: x10 :: x11 :: x12 :: x13 :: x14 :: x15 :: l' => x0 :: x1 :: x2 :: x3 :: x4 :: x5 :: x6 :: x7 :: x8 :: x9 :: x10 :: x11 :: x12 :: x13 :: x14 :: x15 :: setNF f l' (n - 16) v
      | l => l.set n v
    | false => l.set n v
theorem setNF_eq {α : Type} : ∀ (f : Nat) (l : List α) (n : Nat) (v : α), setNF f l n v = l.set n v
  | 0, _, _, _ => rfl
  | f + 1, l, n, v => by
    simp only [setNF]
    split
    · next h =>
      have h := Nat.le_of_ble_eq_true h
      split
      · next x0 x1 x2 x3 x4 x5 x6 x7 x8 x9 x10 x11 x12 x13 x14 x15 l' =>
        obtain ⟨m, rfl⟩ : ∃ m, n = m + 16 := ⟨n - 16, by omega⟩
        rw [setNF_eq f l' _ v]
        simp [List.set_cons_succ]
      · rfl
    · rfl

/-- A block: its cells, the type of its elements, and whether it is the run's own (else it is only read). -/
structure Blk where
  cells : List V
  elem : TypeId
  own : Bool
/-- 'ro': blocks below that number are not written. -/
structure LH where
  next : Nat
  ro : Nat
  m : T Blk
def LH.get (h : LH) (l : Nat) : Option Blk := h.m.get l
def LH.new (h : LH) (b : Blk) : LH := ⟨h.next + 1, h.ro, h.m.put h.next (some b)⟩
def LH.upd (h : LH) (l : Nat) (b : Option Blk) : LH := ⟨h.next, h.ro, h.m.put l b⟩

/-- The guarded blocks are as they were; the streams are; no block has gone. -/
structure Below (B : Nat → Prop) (w w' : World) : Prop where
  os : w'.os = w.os
  tape : w'.tape = w.tape
  output : w'.output = w.output
  size : w.heap.size ≤ w'.heap.size
  block : ∀ k, B k → w'.heap[k]? = w.heap[k]?
theorem Below.refl (B : Nat → Prop) (w : World) : Below B w w := ⟨rfl, rfl, rfl, Nat.le_refl _, fun _ _ => rfl⟩
theorem Below.trans {B : Nat → Prop} {a b c : World} (h : Below B a b) (k : Below B b c) : Below B a c :=
  ⟨k.os.trans h.os, k.tape.trans h.tape, k.output.trans h.output, Nat.le_trans h.size k.size, fun i hi => (k.block i hi).trans (h.block i hi)⟩
theorem Below.mono {B B' : Nat → Prop} {w w' : World} (h : Below B w w') (hB : ∀ k, B' k → B k) : Below B' w w' := ⟨h.os, h.tape, h.output, h.size, fun k hk => h.block k (hB k hk)⟩
theorem Below.drew {B : Nat → Prop} {a w : World} (h : Below B a w) : Below B a w.drew := ⟨h.os, h.tape, h.output, h.size, h.block⟩
theorem Below.alloc {B : Nat → Prop} {a w : World} (h : Below B a w) (hB : ∀ k, B k → k < w.heap.size) (o : Obj) : Below B a (w.alloc o) :=
  h.trans ⟨rfl, rfl, rfl, by simp, fun k hk => RowKit.Below.heap_alloc _ _ _ (hB k hk)⟩
theorem Below.setCell {B : Nat → Prop} {a w : World} (h : Below B a w) {p : Addr} (hp : ¬ B p.block) (u : Value) : Below B a (w.setCell p u) :=
  h.trans ⟨rfl, rfl, rfl, by simp [World.setCell], fun k hk => RowKit.Below.heap_setCell _ _ _ _ (fun e => hp (e ▸ hk))⟩
theorem Below.ofKit {n : Nat} {w w' : World} (h : RowKit.Below n w w') : Below (· < n) w w' := ⟨h.os, h.tape, h.output, h.size, h.block⟩
theorem Below.toKit {n : Nat} {w w' : World} (h : Below (· < n) w w') : RowKit.Below n w w' := ⟨h.os, h.tape, h.output, h.size, h.block⟩

section
variable (P : Program)

theorem add_none (b o n : Nat) : (⟨b, o, none⟩ : Addr).add n = ⟨b, o + n, none⟩ := by
  unfold Addr.add; split
  · next h => subst h; rfl
  · rfl
theorem add_add (a : Addr) (m n : Nat) : (a.add m).add n = a.add (m + n) := by
  unfold Addr.add
  by_cases hm : m = 0
  · subst hm; simp
  · by_cases hn : n = 0
    · subst hn; simp [hm]
    · simp [hm, hn, Nat.add_assoc]

def BlkRO (B : Nat → Prop) (r : Rho) (l : Nat) (b : Blk) (w : World) : Prop :=
  ∀ j v, b.cells[j]? = some v → B (r l).1.block ∧ w.cell? ((r l).1.add j) = some (con r v)
def BlkOwn (B : Nat → Prop) (r : Rho) (l : Nat) (b : Blk) (w : World) : Prop :=
  ∃ (k : Nat) (pre ext : List Value) (fr : Nat × Nat), (r l).1 = ⟨k, pre.length, none⟩ ∧ ¬ B k ∧
    w.heap[k]? = some (.cells (pre ++ conL r b.cells ++ ext).toArray b.elem fr) ∧ ext.length = (r l).2 * P.cellsOf b.elem ∧
    (fr.1 = fr.2 ∨ pre.length + b.cells.length + ext.length ≤ fr.1)

structure RelH (B : Nat → Prop) (W : World) (r : Rho) (H : LH) (w : World) : Prop where
  base : ∀ k, B k → k < W.heap.size
  below : Below B W w
  roLe : H.ro ≤ H.next
  lt : ∀ l b, H.get l = some b → l < H.next
  ok : ∀ l b, H.get l = some b → okL H.next b.cells
  ro : ∀ l b, H.get l = some b → b.own = false → BlkRO B r l b w
  own : ∀ l b, H.get l = some b → b.own = true → BlkOwn P B r l b w
  inj : ∀ l l' b b', H.get l = some b → b.own = true → H.get l' = some b' → b'.own = true → (r l).1.block = (r l').1.block → l = l'

variable {P} {B : Nat → Prop} {W w : World} {r : Rho} {H : LH}

theorem RelH.size (R : RelH P B W r H w) : ∀ k, B k → k < w.heap.size := fun k hk => Nat.lt_of_lt_of_le (R.base k hk) R.below.size

theorem length_conL (r : Rho) (l : List V) : (conL r l).length = l.length := by rw [conL_eq, List.length_map]
theorem getElem?_conL (r : Rho) (l : List V) (j : Nat) : (conL r l)[j]? = (l[j]?).map (con r) := by rw [conL_eq, List.getElem?_map]

theorem cell_of_block {w : World} {k j : Nat} {cs : Array Value} {t : TypeId} {fr : Nat × Nat} (h : w.heap[k]? = some (.cells cs t fr)) : w.cell? ⟨k, j, none⟩ = cs[j]? := by
  simp [World.cell?, h]
theorem frozen_of_block {w : World} {k j : Nat} {cs : Array Value} {t : TypeId} {fr : Nat × Nat} (h : w.heap[k]? = some (.cells cs t fr)) : w.frozen? ⟨k, j, none⟩ = (decide (fr.1 ≤ j) && decide (j < fr.2)) := by
  simp [World.frozen?, h]

theorem BlkOwn.cell {l : Nat} {b : Blk} (h : BlkOwn P B r l b w) {j : Nat} {v : V} (hj : b.cells[j]? = some v) : w.cell? ((r l).1.add j) = some (con r v) := by
  obtain ⟨k, pre, ext, fr, h1, _, h2, _, _⟩ := h
  have hlt : j < b.cells.length := (List.getElem?_eq_some_iff.1 hj).1
  rw [h1, add_none, cell_of_block h2, List.getElem?_toArray, List.append_assoc, List.getElem?_append_right (by omega), List.getElem?_append_left (by rw [length_conL]; omega), getElem?_conL]
  rw [show pre.length + j - pre.length = j by omega, hj]; rfl
theorem BlkOwn.frozen {l : Nat} {b : Blk} (h : BlkOwn P B r l b w) {j : Nat} (hj : j < b.cells.length) : w.frozen? ((r l).1.add j) = false := by
  obtain ⟨k, pre, ext, fr, h1, _, h2, _, h3⟩ := h
  rw [h1, add_none, frozen_of_block h2]
  simp only [Bool.and_eq_false_iff, decide_eq_false_iff_not]
  omega

/-- A cell reads as the memory says. -/
theorem RelH.cell (R : RelH P B W r H w) {l : Nat} {b : Blk} (hl : H.get l = some b) {j : Nat} {v : V} (hj : b.cells[j]? = some v) : w.cell? ((r l).1.add j) = some (con r v) := by
  cases hb : b.own with
  | false => exact (R.ro l b hl hb j v hj).2
  | true => exact (R.own l b hl hb).cell hj
theorem RelH.okCell (R : RelH P B W r H w) {l : Nat} {b : Blk} (hl : H.get l = some b) {j : Nat} {v : V} (hj : b.cells[j]? = some v) : okV H.next v :=
  (okL_iff _ _).1 (R.ok l b hl) v (List.mem_of_getElem? hj)

theorem RelH.drew (R : RelH P B W r H w) : RelH P B W r H w.drew :=
  ⟨R.base, R.below.drew, R.roLe, R.lt, R.ok, R.ro, R.own, R.inj⟩

/-- What a draw leaves. -/
theorem RelH.of_heap {w' : World} (R : RelH P B W r H w) (hb : Below B W w') (h : w'.heap = w.heap) : RelH P B W r H w' :=
  ⟨R.base, hb, R.roLe, R.lt, R.ok, fun l b hl ho j v hj => ⟨(R.ro l b hl ho j v hj).1, by have := (R.ro l b hl ho j v hj).2; simpa [World.cell?, h] using this⟩,
   fun l b hl ho => by have := R.own l b hl ho; simpa [BlkOwn, h] using this, R.inj⟩

theorem LH.get_new (H : LH) (b : Blk) (l : Nat) : (H.new b).get l = if l = H.next then some b else H.get l := by
  simp [LH.new, LH.get, T.get_put]
theorem LH.get_upd (H : LH) (k : Nat) (b : Option Blk) (l : Nat) : (H.upd k b).get l = if l = k then b else H.get l := by
  simp [LH.upd, LH.get, T.get_put]

/-- The new number's place. -/
def put (r : Rho) (l : Nat) (x : Addr × Nat) : Rho := fun k => if k = l then x else r k
theorem put_ext (r : Rho) (l : Nat) (x : Addr × Nat) : Ext l r (put r l x) := fun k hk => by simp [put]; omega
theorem put_at (r : Rho) (l : Nat) (x : Addr × Nat) : put r l x l = x := by simp [put]
theorem put_ne (r : Rho) (l k : Nat) (x : Addr × Nat) (h : k ≠ l) : put r l x k = r k := by simp [put, h]

theorem BlkOwn.ext {l : Nat} {b : Blk} {n : Nat} {r' : Rho} (h : BlkOwn P B r l b w) (hl : l < n) (hb : okL n b.cells) (he : Ext n r r') {w' : World}
    (hw : w'.heap[(r l).1.block]? = w.heap[(r l).1.block]?) : BlkOwn P B r' l b w' := by
  obtain ⟨k, pre, ext, fr, h1, h2, h3, h4, h5⟩ := h
  rw [h1] at hw
  exact ⟨k, pre, ext, fr, by rw [he l hl]; exact h1, h2, by rw [conL_ext he _ hb, hw]; exact h3, by rw [he l hl]; exact h4, h5⟩
theorem BlkRO.ext {l : Nat} {b : Blk} {n : Nat} {r' : Rho} (h : BlkRO B r l b w) (hl : l < n) (hb : okL n b.cells) (he : Ext n r r') {w' : World}
    (hw : ∀ k, B k → w'.heap[k]? = w.heap[k]?) : BlkRO B r' l b w' := fun j v hj => by
  obtain ⟨h1, h2⟩ := h j v hj
  have hv := (okL_iff _ _).1 hb v (List.mem_of_getElem? hj)
  rw [he l hl]
  refine ⟨h1, ?_⟩
  rw [con_ext he v hv]
  have hbk : ((r l).1.add j).block = (r l).1.block := by unfold Addr.add; split <;> rfl
  rw [World.cell?_of_block (w := w) (by rw [hbk]; exact hw _ h1)]
  exact h2

/-- A new block in the world, known by a new number. -/
theorem RelH.new (R : RelH P B W r H w) (cs : List V) (ext : List Value) (t : TypeId) (n : Nat) (fr : Nat × Nat) (hcs : okL H.next cs) (hext : ext.length = n * P.cellsOf t)
    (hfr : fr.1 = fr.2 ∨ cs.length + ext.length ≤ fr.1) :
    RelH P B W (put r H.next (⟨w.heap.size, 0, none⟩, n)) (H.new ⟨cs, t, true⟩) (w.alloc (.cells (conL r cs ++ ext).toArray t fr)) := by
  have he := put_ext r H.next (⟨w.heap.size, 0, none⟩, n)
  have hnew : ∀ k, k < w.heap.size → (w.alloc (.cells (conL r cs ++ ext).toArray t fr)).heap[k]? = w.heap[k]? := fun k hk => RowKit.Below.heap_alloc _ _ _ hk
  have own_lt : ∀ l b, H.get l = some b → b.own = true → (r l).1.block < w.heap.size := fun l b hl ho => by
    obtain ⟨k, pre, ext, fr, h1, h2, h3, _⟩ := R.own l b hl ho
    rw [h1]
    exact (Array.getElem?_eq_some_iff.1 h3).1
  refine ⟨R.base, R.below.alloc R.size _, Nat.le_succ_of_le R.roLe, ?_, ?_, ?_, ?_, ?_⟩
  · intro l b hl
    rw [LH.get_new] at hl
    show l < H.next + 1
    split at hl
    · omega
    · have := R.lt l b hl; omega
  · intro l b hl
    rw [LH.get_new] at hl
    show okL (H.next + 1) _
    split at hl
    · injection hl with hl; subst hl; exact okL_mono (Nat.le_succ _) _ hcs
    · exact okL_mono (Nat.le_succ _) _ (R.ok l b hl)
  · intro l b hl ho
    rw [LH.get_new] at hl
    split at hl
    · injection hl with hl; subst hl; cases ho
    · exact (R.ro l b hl ho).ext (R.lt l b hl) (R.ok l b hl) he (fun k hk => hnew k (R.size k hk))
  · intro l b hl ho
    rw [LH.get_new] at hl
    split at hl
    · next e =>
      injection hl with hl; subst hl; subst e
      refine ⟨w.heap.size, [], ext, fr, by rw [put_at]; rfl, fun hk => Nat.lt_irrefl _ (R.size _ hk), ?_, by rw [put_at]; exact hext, by simpa using hfr⟩
      show (w.heap.push _)[w.heap.size]? = _
      rw [Array.getElem?_push_size, conL_ext he _ hcs]; rfl
    · exact (R.own l b hl ho).ext (R.lt l b hl) (R.ok l b hl) he (hnew _ (own_lt l b hl ho))
  · intro l l' b b' hl ho hl' ho' e
    rw [LH.get_new] at hl hl'
    by_cases h1 : l = H.next <;> by_cases h2 : l' = H.next
    · rw [h1, h2]
    · rw [if_neg h2] at hl'
      rw [h1, put_at, put_ne _ _ _ _ h2] at e
      have := own_lt l' b' hl' ho'
      simp only at e; omega
    · rw [if_neg h1] at hl
      rw [h2, put_at, put_ne _ _ _ _ h1] at e
      have := own_lt l b hl ho
      simp only at e; omega
    · rw [if_neg h1] at hl; rw [if_neg h2] at hl'
      rw [put_ne _ _ _ _ h1, put_ne _ _ _ _ h2] at e
      exact R.inj l l' b b' hl ho hl' ho' e

/-- A store into a block of the run's own. -/
theorem RelH.store (R : RelH P B W r H w) {l j : Nat} {b : Blk} (hl : H.get l = some b) (ho : b.own = true) (hj : j < b.cells.length) {v : V} (hv : okV H.next v) :
    RelH P B W r (H.upd l (some ⟨b.cells.set j v, b.elem, true⟩)) (w.setCell ((r l).1.add j) (con r v)) := by
  obtain ⟨k, pre, ext, fr, h1, h2, h3, h4, h5⟩ := R.own l b hl ho
  have hk : ((r l).1.add j) = ⟨k, pre.length + j, none⟩ := by rw [h1, add_none]
  have hoth : ∀ i, i ≠ k → (w.setCell ((r l).1.add j) (con r v)).heap[i]? = w.heap[i]? := fun i hi => RowKit.Below.heap_setCell _ _ _ _ (by rw [hk]; exact hi)
  refine ⟨R.base, R.below.setCell (by rw [hk]; exact h2) _, R.roLe, ?_, ?_, ?_, ?_, ?_⟩
  · intro l' b' hl'
    rw [LH.get_upd] at hl'
    show l' < H.next
    split at hl'
    · next e => subst e; exact R.lt _ b hl
    · exact R.lt l' b' hl'
  · intro l' b' hl'
    rw [LH.get_upd] at hl'
    show okL H.next _
    split at hl'
    · injection hl' with hl'; subst hl'
      refine (okL_iff _ _).2 fun x hx => ?_
      rcases List.mem_or_eq_of_mem_set hx with h | h
      · exact (okL_iff _ _).1 (R.ok l b hl) x h
      · rw [h]; exact hv
    · exact R.ok l' b' hl'
  · intro l' b' hl' ho'
    rw [LH.get_upd] at hl'
    split at hl'
    · injection hl' with hl'; subst hl'; cases ho'
    · exact (R.ro l' b' hl' ho').ext (R.lt l' b' hl') (R.ok l' b' hl') (Ext.refl _ _) (fun i hi => hoth i (fun e => by subst e; exact absurd hi (by assumption)))
  · intro l' b' hl' ho'
    rw [LH.get_upd] at hl'
    split at hl'
    · next e =>
      injection hl' with hl'; subst hl'; subst e
      refine ⟨k, pre, ext, fr, h1, h2, ?_, h4, ?_⟩
      · rw [hk]
        simp only [World.setCell, Array.getElem?_modify, if_true, h3, Option.map_some]
        congr 2
        simp only [Option.isSome_none, Bool.false_eq_true, if_false]
        apply Array.ext'
        simp only [Array.toList_setIfInBounds, conL_eq, List.map_set]
        rw [List.append_assoc, List.append_assoc, List.set_append_right _ _ (by omega), show pre.length + j - pre.length = j by omega, List.set_append_left _ _ (by simpa using hj)]
      · simpa using h5
    · next e =>
      refine (R.own l' b' hl' ho').ext (R.lt l' b' hl') (R.ok l' b' hl') (Ext.refl _ _) (hoth _ fun e' => e (R.inj l' l b' b hl' ho' hl ho (by rw [e', h1])))
  · intro l1 l2 b1 b2 hl1 ho1 hl2 ho2 e
    rw [LH.get_upd] at hl1 hl2
    split at hl1 <;> split at hl2
    · next e1 e2 => rw [e1, e2]
    · next e1 e2 => subst e1; exact R.inj _ l2 b b2 hl ho hl2 ho2 e
    · next e1 e2 => subst e2; exact R.inj l1 _ b1 b hl1 ho1 hl ho e
    · exact R.inj l1 l2 b1 b2 hl1 ho1 hl2 ho2 e

/-- A block of the world that nobody owns is known by a new number. -/
theorem RelH.adopt (R : RelH P B W r H w) {w1 : World} (hb : Below B W w1) {k : Nat} (hB : ¬ B k) (hoth : ∀ j, j ≠ k → w1.heap[j]? = w.heap[j]?)
    (hfree : ∀ l b, H.get l = some b → b.own = true → (r l).1.block ≠ k) {b : Blk} (hbo : b.own = true) {x : Addr × Nat} (hx : x.1.block = k) (hok : okL H.next b.cells)
    (hown : BlkOwn P B (put r H.next x) H.next b w1) : RelH P B W (put r H.next x) (H.new b) w1 := by
  have he := put_ext r H.next x
  refine ⟨R.base, hb, Nat.le_succ_of_le R.roLe, ?_, ?_, ?_, ?_, ?_⟩
  · intro l b' hl
    rw [LH.get_new] at hl
    show l < H.next + 1
    split at hl
    · omega
    · have := R.lt l b' hl; omega
  · intro l b' hl
    rw [LH.get_new] at hl
    show okL (H.next + 1) _
    split at hl
    · injection hl with hl; subst hl; exact okL_mono (Nat.le_succ _) _ hok
    · exact okL_mono (Nat.le_succ _) _ (R.ok l b' hl)
  · intro l b' hl ho
    rw [LH.get_new] at hl
    split at hl
    · injection hl with hl; subst hl; rw [hbo] at ho; cases ho
    · exact (R.ro l b' hl ho).ext (R.lt l b' hl) (R.ok l b' hl) he (fun i hi => hoth i (fun e => by subst e; exact absurd hi (by assumption)))
  · intro l b' hl ho
    rw [LH.get_new] at hl
    split at hl
    · next e => injection hl with hl; subst hl; subst e; exact hown
    · exact (R.own l b' hl ho).ext (R.lt l b' hl) (R.ok l b' hl) he (hoth _ (hfree l b' hl ho))
  · intro l l' b1 b2 hl ho hl' ho' e
    rw [LH.get_new] at hl hl'
    by_cases h1 : l = H.next <;> by_cases h2 : l' = H.next
    · rw [h1, h2]
    · rw [if_neg h2] at hl'
      rw [h1, put_at, put_ne _ _ _ _ h2, hx] at e
      exact absurd e.symm (hfree l' b2 hl' ho')
    · rw [if_neg h1] at hl
      rw [h2, put_at, put_ne _ _ _ _ h1, hx] at e
      exact absurd e (hfree l b1 hl ho)
    · rw [if_neg h1] at hl; rw [if_neg h2] at hl'
      rw [put_ne _ _ _ _ h1, put_ne _ _ _ _ h2] at e
      exact R.inj l l' b1 b2 hl ho hl' ho' e

/-- A block is struck out of the memory: no more is said of it. -/
theorem RelH.kill (R : RelH P B W r H w) (l : Nat) : RelH P B W r (H.upd l none) w := by
  have hg : ∀ l' b', (H.upd l none).get l' = some b' → H.get l' = some b' := fun l' b' h => by
    rw [LH.get_upd] at h
    split at h
    · cases h
    · exact h
  exact ⟨R.base, R.below, R.roLe, fun l' b' h => R.lt l' b' (hg _ _ h), fun l' b' h => R.ok l' b' (hg _ _ h), fun l' b' h => R.ro l' b' (hg _ _ h), fun l' b' h => R.own l' b' (hg _ _ h),
    fun l1 l2 b1 b2 h1 o1 h2 o2 => R.inj l1 l2 b1 b2 (hg _ _ h1) o1 (hg _ _ h2) o2⟩

/-- Blocks below 'ro' are as they were. -/
structure Keeps (H H' : LH) : Prop where
  ro : H'.ro = H.ro
  next : H.next ≤ H'.next
  get : ∀ l, l < H.ro → H'.get l = H.get l
theorem Keeps.refl (H : LH) : Keeps H H := ⟨rfl, Nat.le_refl _, fun _ _ => rfl⟩
theorem Keeps.trans {H H' H'' : LH} (h : Keeps H H') (h' : Keeps H' H'') : Keeps H H'' :=
  ⟨h'.ro.trans h.ro, Nat.le_trans h.next h'.next, fun l hl => (h'.get l (by rw [h.ro]; exact hl)).trans (h.get l hl)⟩
theorem Keeps.new {H : LH} (h : H.ro ≤ H.next) (b : Blk) : Keeps H (H.new b) :=
  ⟨rfl, Nat.le_succ _, fun l hl => by rw [LH.get_new, if_neg (by omega)]⟩
theorem Keeps.upd {H : LH} {l : Nat} (h : H.ro ≤ l) (b : Option Blk) : Keeps H (H.upd l b) :=
  ⟨rfl, Nat.le_refl _, fun k hk => by rw [LH.get_upd, if_neg (by omega)]⟩

/-- What an operation that may write leaves. -/
def Leaves (P : Program) (B : Nat → Prop) (W : World) (r : Rho) (H : LH) (v : V) (H' : LH) (u : Value) (w' : World) : Prop :=
  ∃ r', u = con r' v ∧ Ext H.next r r' ∧ okV H'.next v ∧ RelH P B W r' H' w' ∧ Keeps H H'

end

/-! ### Values -/
def isCell : V → Bool
  | .agg _ | .tup _ => false
  | _ => true
def vcells : V → List V
  | .agg l => l
  | v => [v]

theorem con_cells (r : Rho) (v : V) : (con r v).cells = (conL r (vcells v)).toArray := by
  cases v with
  | p a => cases a <;> rfl
  | sl a n c o => cases a <;> rfl
  | _ => rfl
theorem con_oneCell (r : Rho) (v : V) (h : isCell v = true) : (con r v).oneCell' = true := by
  cases v with
  | p a => cases a <;> rfl
  | sl a n c o => cases a <;> rfl
  | agg l => simp [isCell] at h
  | tup l => simp [isCell] at h
  | _ => rfl
theorem okL_vcells {n : Nat} {v : V} (h : okV n v) : okL n (vcells v) := by
  cases v <;> simp only [vcells, okL, and_true] <;> first | exact h | trivial

/-- A constant of the text. -/
def ofCell : Value → Option V
  | .bool b => some (.b b)
  | .int k n => some (.i k n)
  | .string s => some (.s s)
  | .pointer none => some (.p none)
  | .slice none n c => some (.sl none n c false)
  | .nilFunc => some .nf
  | .nilIface => some .nif
  | _ => none
def ofCells : List Value → Option (List V)
  | [] => some []
  | v :: l => match ofCell v, ofCells l with
    | some x, some y => some (x :: y)
    | _, _ => none
def ofValue : Value → Option V
  | .agg cs => (ofCells cs.toList).map .agg
  | v => ofCell v

theorem con_ofCell {c : Value} {v : V} (h : ofCell c = some v) (r : Rho) : con r v = c ∧ (∀ n, okV n v) ∧ isCell v = true := by
  unfold ofCell at h
  split at h <;> first | (cases h; done) | (injection h with h; subst h; exact ⟨rfl, fun _ => trivial, rfl⟩)
theorem con_ofCells : ∀ {cs : List Value} {l : List V}, ofCells cs = some l → ∀ r, conL r l = cs ∧ ∀ n, okL n l
  | [], l, h, r => by simp only [ofCells] at h; injection h with h; subst h; exact ⟨rfl, fun _ => trivial⟩
  | c :: cs, l, h, r => by
    simp only [ofCells] at h
    split at h
    · next x y hx hy =>
      injection h with h; subst h
      obtain ⟨h1, h2, _⟩ := con_ofCell hx r
      obtain ⟨h3, h4⟩ := con_ofCells hy r
      exact ⟨by simp [conL, h1, h3], fun n => ⟨h2 n, h4 n⟩⟩
    · cases h
theorem con_ofValue {c : Value} {v : V} (h : ofValue c = some v) (r : Rho) : con r v = c ∧ ∀ n, okV n v := by
  unfold ofValue at h
  split at h
  · next cs =>
    cases hc : ofCells cs.toList with
    | none => rw [hc] at h; cases h
    | some l =>
      rw [hc] at h; injection h with h; subst h
      obtain ⟨h1, h2⟩ := con_ofCells hc r
      exact ⟨by simp [con, h1], fun n => h2 n⟩
  · obtain ⟨h1, h2, _⟩ := con_ofCell h r
    exact ⟨h1, h2⟩

/-! ### Frames -/
/-- What the slots hold. -/
structure RelF (r : Rho) (nx n : Nat) (t : T V) (a : Act) : Prop where
  size : a.tmps.size = n
  defers : a.defers = []
  get : ∀ k v, t.get k = some v → a.tmps.getD k undef = con r v
  ok : ∀ k v, t.get k = some v → okV nx v

theorem RelF.ext {r r' : Rho} {nx nx' n : Nat} {t : T V} {a : Act} (h : RelF r nx n t a) (he : Ext nx r r') (hn : nx ≤ nx') : RelF r' nx' n t a :=
  ⟨h.size, h.defers, fun k v hk => by rw [h.get k v hk, con_ext he v (h.ok k v hk)], fun k v hk => okV_mono hn v (h.ok k v hk)⟩

def setO (t : T V) (d : Option Tmp) (v : V) : T V := match d with | some d => t.put d (some v) | none => t
def fits (n : Nat) (d : Option Tmp) : Bool := match d with | some d => Nat.blt d n | none => true

theorem RelF.put {r : Rho} {nx n : Nat} {t : T V} {a : Act} (h : RelF r nx n t a) {d : Option Tmp} {v : V} (hd : fits n d = true) (hv : okV nx v) : RelF r nx n (setO t d v) (a.put d (con r v)) := by
  cases d with
  | none => exact h
  | some d =>
    have hd : d < n := by simpa [fits] using hd
    refine ⟨by simp [Act.put, h.size], h.defers, fun k u hk => ?_, fun k u hk => ?_⟩
    · simp only [setO, T.get_put] at hk
      simp only [Act.put]
      by_cases e : k = d
      · subst e
        rw [if_pos rfl] at hk
        injection hk with hk; subst hk
        have : k < a.tmps.size := by rw [h.size]; exact hd
        simp [Array.getD, this]
      · rw [if_neg e] at hk
        have := h.get k u hk
        rw [← this]
        simp only [Array.getD_eq_getD_getElem?]
        rw [Array.getElem?_setIfInBounds_ne (Ne.symm e)]
    · simp only [setO, T.get_put] at hk
      split at hk
      · injection hk with hk; subst hk; exact hv
      · exact h.ok k u hk
/-- Nothing is laid. -/
theorem RelF.undef {r : Rho} {nx n : Nat} {t : T V} {a : Act} (h : RelF r nx n t a) {d : Option Tmp} (hd : fits n d = true) : RelF r nx n (setO t d (.tup [])) (a.put d undef) :=
  h.put (v := .tup []) hd trivial

def evO (t : T V) : Operand → Option V
  | .tmp k => t.get k
  | .const v => ofValue v
  | .global _ => none
  | .func f => some (.fn f [])
theorem evO_sound {r : Rho} {nx n : Nat} {t : T V} {a : Act} (h : RelF r nx n t a) {x : Operand} {v : V} (hx : evO t x = some v) : a.eval x = con r v ∧ okV nx v := by
  cases x with
  | tmp k =>
    simp only [evO] at hx
    exact ⟨h.get k v hx, h.ok k v hx⟩
  | const c =>
    obtain ⟨h1, h2⟩ := con_ofValue (show ofValue c = some v from hx) r
    exact ⟨h1.symm, h2 nx⟩
  | global g => cases hx
  | func f => injection hx with hx; subst hx; exact ⟨rfl, trivial⟩

def evL (t : T V) : List Operand → Option (List V)
  | [] => some []
  | x :: l => match evO t x, evL t l with
    | some v, some vs => some (v :: vs)
    | _, _ => none
theorem evL_sound {r : Rho} {nx n : Nat} {t : T V} {a : Act} (h : RelF r nx n t a) : ∀ {l : List Operand} {vs : List V}, evL t l = some vs → l.map a.eval = conL r vs ∧ okL nx vs
  | [], vs, hl => by injection hl with hl; subst hl; exact ⟨rfl, trivial⟩
  | x :: l, vs, hl => by
    simp only [evL] at hl
    split at hl
    · next v us hv hus =>
      injection hl with hl; subst hl
      obtain ⟨h1, h2⟩ := evO_sound h hv
      obtain ⟨h3, h4⟩ := evL_sound h hus
      exact ⟨by simp [conL, h1, h3], h2, h4⟩
    · cases hl

/-! ### Types -/
/-- What a pointer type points to. -/
def _root_.Go.Program.elemP (P : Program) (t : TypeId) : TypeId := match P.underlying t with | some (.pointer e) => e | _ => 0
/-- What the machine asks of the program: tables, each row of which holds of the program. -/
structure Tb (P : Program) where
  und : TypeId → Option TypeDesc
  sz : TypeId → Option Nat
  bytes : TypeId → Option Nat
  zero : TypeId → Option V
  fn : FuncId → Option Func
  meth : TypeId → String → Option FuncId
  loud : FuncId → Bool
  cnt : FuncId → Bool
  spec : FuncId → Option (List V → LH → Option (V × LH))
  undOk : ∀ t d, und t = some d → P.underlying t = some d
  szOk : ∀ t n, sz t = some n → (P.info? t).map (·.size) = some n
  bytesOk : ∀ t n, bytes t = some n → (P.info? t).map (·.bytes) = some n
  zeroOk : ∀ t v, zero t = some v → ((P.info? t).bind (·.zero)).bind ofValue = some v
  fnOk : ∀ f F, fn f = some F → P.funcs[f]? = some F ∧ (F.name == "runtime.NumGoroutine") = false ∧ F.body.isSome = true ∧ ∀ c, F.body = some c → codeB c = true
  methOk : ∀ t name f v w, meth t name = some f → (method (P.types.size + Made.depth) t v name).run P w = .ok (f, v) w
  cntOk : ∀ f args w, cnt f = true → (callFunc f args).run P w = ((Extern.BytealgCount.count args).run P w).andThen fun v w => .ok (.value v) w
  specOk : ∀ g s, spec g = some s → ∀ (B : Nat → Prop) (W : World) (r : Rho) (w : World) (vs : List V) (h : LH) (v : V) (h' : LH), s vs h = some (v, h') → okL h.next vs → RelH P B W r h w →
    Calls P g (conL r vs).toArray w (fun e w' => ∃ u, e = .returned u ∧ Leaves P B W r h v h' u w')

section
variable {P : Program} (tb : Tb P) {B : Nat → Prop} {W w : World} {r : Rho} {H : LH}

def isAgg (t : TypeId) : Option Bool :=
  match tb.und t with
  | some (.struct _) | some (.array _ _) => some true
  | some _ => some false
  | none => none

theorem run_typeInfo {t : TypeId} {i : TypeInfo} (h : P.info? t = some i) (w : World) : (typeInfo t).run P w = .ok i w := by simp [typeInfo, h]
theorem Tb.info {t : TypeId} {n : Nat} (h : tb.sz t = some n) : ∃ i, P.info? t = some i ∧ i.size = n := by
  obtain ⟨i, h1, h2⟩ := Option.map_eq_some_iff.1 (tb.szOk t n h)
  exact ⟨i, h1, h2⟩
theorem Tb.infoB {t : TypeId} {n : Nat} (h : tb.bytes t = some n) : ∃ i, P.info? t = some i ∧ i.bytes = n := by
  obtain ⟨i, h1, h2⟩ := Option.map_eq_some_iff.1 (tb.bytesOk t n h)
  exact ⟨i, h1, h2⟩
theorem run_sizeOf {t : TypeId} {n : Nat} (h : tb.sz t = some n) (w : World) : (sizeOf t).run P w = .ok n w := by
  obtain ⟨i, hi, h⟩ := tb.info h
  simp [sizeOf, run_typeInfo hi, h]
theorem cellsOf_of {t : TypeId} {n : Nat} (h : tb.sz t = some n) : P.cellsOf t = n := by
  unfold Program.cellsOf; rw [tb.szOk t n h]; rfl
theorem run_zeroValue {t : TypeId} {v : V} (h : tb.zero t = some v) (r : Rho) (w : World) : (zeroValue t).run P w = .ok (con r v) w ∧ ∀ n, okV n v := by
  have h := tb.zeroOk t v h
  cases hi : P.info? t with
  | none => rw [hi] at h; cases h
  | some i =>
    rw [hi] at h
    simp only [Option.bind_some] at h
    cases hz : i.zero with
    | none => rw [hz] at h; cases h
    | some z =>
      rw [hz] at h
      obtain ⟨h1, h2⟩ := con_ofValue h r
      exact ⟨by simp [zeroValue, run_typeInfo hi, hz, h1], h2⟩
theorem run_isAgg {t : TypeId} {b : Bool} (h : isAgg tb t = some b) (w : World) : (Go.isAgg t).run P w = .ok b w := by
  unfold Am.isAgg at h
  cases hu : tb.und t with
  | none => rw [hu] at h; cases h
  | some d =>
    rw [hu] at h
    have hu := tb.undOk t d hu
    cases d <;> (injection h with h; subst h; simp [Go.isAgg, run_underlying hu])

/-! ### Loads and stores -/
/-- The cells of a block from a place on. -/
def cellsAt (h : LH) (l o n : Nat) : Option (List V) :=
  match h.get l with
  | some b => let cs := (b.cells.drop o).take n; if cs.length = n then some cs else none
  | none => none
theorem cellsAt_sound (R : RelH P B W r H w) {l o n : Nat} {cs : List V} (h : cellsAt H l o n = some cs) :
    okL H.next cs ∧ cs.length = n ∧ ∀ j v, (conL r cs)[j]? = some v → w.cell? (((r l).1.add o).add j) = some v := by
  unfold cellsAt at h
  split at h
  · next b hb =>
    simp only at h
    split at h
    · next hn =>
      injection h with h; subst h
      refine ⟨(okL_iff _ _).2 fun v hv => (okL_iff _ _).1 (R.ok l b hb) v (List.mem_of_mem_drop (List.mem_of_mem_take hv)), hn, fun j v hj => ?_⟩
      rw [getElem?_conL] at hj
      obtain ⟨x, hx, hxv⟩ := Option.map_eq_some_iff.1 hj
      subst hxv
      have hjn : j < n := by have := (List.getElem?_eq_some_iff.1 hx).1; omega
      rw [List.getElem?_take_of_lt hjn, List.getElem?_drop] at hx
      rw [add_add]
      exact R.cell hb hx
    · cases h
  · cases h

def ldV (h : LH) (t : TypeId) : V → Option V
  | .p (some (l, o)) =>
    match isAgg tb t with
    | some true => match tb.sz t with
      | some n => (cellsAt h l o n).map .agg
      | none => none
    | some false => match h.get l with
      | some b => nthF o b.cells o
      | none => none
    | none => none
  | _ => none
theorem ldV_sound (R : RelH P B W r H w) {t : TypeId} {x v : V} (h : ldV tb H t x = some v) : (Instr.loadAt t (con r x)).run P w = .ok (con r v) w ∧ okV H.next v := by
  unfold ldV at h
  split at h
  · next l o =>
    split at h
    · next ha =>
      split at h
      · next n hn =>
        obtain ⟨cs, hc, hv⟩ := Option.map_eq_some_iff.1 h
        subst hv
        obtain ⟨h1, h2, h3⟩ := cellsAt_sound R hc
        refine ⟨?_, h1⟩
        have := run_loadCells_list (P := P) w ((r l).1.add o) (conL r cs) h3
        rw [length_conL, h2] at this
        simp [Instr.loadAt, Instr.sureAddr, con, loadVar, run_isAgg tb ha, run_sizeOf tb hn, this]
      · cases h
    · next ha =>
      split at h
      · next b hb =>
        rw [nthF_eq] at h
        have hc := R.cell hb h
        refine ⟨?_, R.okCell hb h⟩
        simp [Instr.loadAt, Instr.sureAddr, con, loadVar, run_isAgg tb ha, hc]
      · cases h
    · cases h
  · cases h

/-- A row of stores. -/
def stL (h : LH) (l : Nat) : Nat → List V → Option LH
  | _, [] => some h
  | o, v :: vs => match h.get l with
    | some b => if b.own && isCell v && (nthF o b.cells o).isSome && Nat.ble h.ro l then stL (h.upd l (some ⟨setNF o b.cells o v, b.elem, true⟩)) l (o + 1) vs else none
    | none => none
theorem stL_sound : ∀ {vs : List V} {o : Nat} {H H' : LH} {w : World} {l i : Nat} {a : Addr}, RelH P B W r H w → okL H.next vs → stL H l o vs = some H' → (∀ j, a.add (i + j) = (r l).1.add (o + j)) →
    ∃ w', (storeCells a (conL r vs) i).run P w = .ok () w' ∧ RelH P B W r H' w' ∧ H'.next = H.next ∧ Keeps H H'
  | [], o, H, H', w, l, i, a, R, _, h, _ => by
    injection h with h; subst h
    exact ⟨w, rfl, R, rfl, Keeps.refl _⟩
  | v :: vs, o, H, H', w, l, i, a, R, hok, h, ha => by
    simp only [stL] at h
    split at h
    · next b hb =>
      split at h
      · next hc =>
        simp only [Bool.and_eq_true] at hc
        obtain ⟨⟨⟨ho, hv⟩, hlt⟩, hro⟩ := hc
        have hro := Nat.le_of_ble_eq_true hro
        rw [nthF_eq] at hlt
        have hlt : o < b.cells.length := by
          rcases Nat.lt_or_ge o b.cells.length with h' | h'
          · exact h'
          · rw [List.getElem?_eq_none h'] at hlt; cases hlt
        rw [setNF_eq] at h
        have R' := R.store hb ho hlt hok.1
        obtain ⟨w', h1, h2, h3, h4⟩ := stL_sound (i := i + 1) (a := a) R' hok.2 h (fun j => by rw [show i + 1 + j = i + (j + 1) by omega, ha, show o + (j + 1) = o + 1 + j by omega])
        refine ⟨w', ?_, h2, h3, (Keeps.upd hro _).trans h4⟩
        have hcell : w.cell? ((r l).1.add o) = some (con r b.cells[o]) := R.cell hb (List.getElem?_eq_getElem hlt)
        have hfz : w.frozen? ((r l).1.add o) = false := (R.own l b hb ho).frozen hlt
        have ha0 : a.add i = (r l).1.add o := by have := ha 0; simpa using this
        simp only [conL, storeCells, Sem.run_bind, ha0, run_store P w _ _ _ (con_oneCell r v hv), hcell, hfz, Bool.false_eq_true, if_false, Result.andThen_ok]
        exact h1
      · cases h
    · cases h

def stV (h : LH) (t : TypeId) (x v : V) : Option LH :=
  match x with
  | .p (some (l, o)) => if tb.sz t = some (vcells v).length then stL h l o (vcells v) else none
  | _ => none
theorem stV_sound (R : RelH P B W r H w) {t : TypeId} {x v : V} {H' : LH} (hv : okV H.next v) (h : stV tb H t x v = some H') :
    ∃ w', (Instr.storeAt t (con r x) (con r v)).run P w = .ok () w' ∧ RelH P B W r H' w' ∧ H'.next = H.next ∧ Keeps H H' := by
  unfold stV at h
  split at h
  · next l o =>
    split at h
    · next hs =>
      obtain ⟨w', h1, h2⟩ := stL_sound (i := 0) (a := (r l).1.add o) R (okL_vcells hv) h (fun j => by rw [Nat.zero_add, add_add])
      refine ⟨w', ?_, h2⟩
      simp only [Instr.storeAt, Instr.sureAddr, con, storeVar, Sem.run_bind, Sem.run_pure, Result.andThen_ok, run_sizeOf tb hs, con_cells, List.size_toArray, length_conL, ne_eq, not_true, if_false, h1]
    · cases h
  · cases h

/-! ### New blocks -/
theorem RelH.row (R : RelH P B W r H w) {cs : List V} (t : TypeId) (hcs : okL H.next cs) :
    ∃ r', (newRow t (conL r cs).toArray).run P w = .ok (r' H.next).1 (w.alloc (.cells (conL r cs).toArray t)) ∧ Ext H.next r r' ∧ (r' H.next).2 = 0 ∧ (r' H.next).1.add 0 = (r' H.next).1 ∧
      RelH P B W r' (H.new ⟨cs, t, true⟩) (w.alloc (.cells (conL r cs).toArray t)) := by
  have := R.new cs [] t 0 (0, 0) hcs (by simp) (.inl rfl)
  rw [List.append_nil] at this
  exact ⟨put r H.next (⟨w.heap.size, 0, none⟩, 0), by simp [newRow, put_at], put_ext _ _ _, by rw [put_at], by rw [put_at]; rfl, this⟩

end

/-! ### Whole numbers -/
def lo : IntKind → Int
  | .i8 => -128 | .i16 => -32768 | .i32 => -2147483648 | .i64 => -9223372036854775808 | _ => 0
def hi : IntKind → Int
  | .i8 => 127 | .i16 => 32767 | .i32 => 2147483647 | .i64 => 9223372036854775807 | .u8 => 255 | .u16 => 65535 | .u32 => 4294967295 | .u64 => 18446744073709551615
/-- 'wrap', in short where nothing is to be wrapped. -/
def wr (k : IntKind) (n : Int) : Int := if lo k ≤ n then (if n ≤ hi k then n else k.wrap n) else k.wrap n
theorem wr_eq (k : IntKind) (n : Int) : wr k n = k.wrap n := by
  unfold wr
  by_cases h1 : lo k ≤ n
  · rw [if_pos h1]
    by_cases h2 : n ≤ hi k
    · rw [if_pos h2]
      cases k <;> simp only [lo, hi] at h1 h2 <;> simp [IntKind.wrap, IntKind.bits, IntKind.signed] <;> omega
    · rw [if_neg h2]
  · rw [if_neg h1]

def pow2 : Nat → Int := fun n => ((2 ^ n : Nat) : Int)
theorem pow2_eq (n : Nat) : pow2 n = (2 : Int) ^ n := by simp [pow2]

def intV (op : BinOp) (k : IntKind) (a b : Int) : Option V :=
  match op with
  | .add => some (.i k (wr k (a + b)))
  | .sub => some (.i k (wr k (a - b)))
  | .mul => some (.i k (wr k (a * b)))
  | .quo => if b = 0 then none else some (.i k (wr k (a.tdiv b)))
  | .rem => if b = 0 then none else some (.i k (a.tmod b))
  | .and | .or | .xor | .andNot => some (.i k (bits op k a b))
  | .eql => some (.b (a == b))
  | .neq => some (.b (a != b))
  | .lss => some (.b (decide (a < b)))
  | .leq => some (.b (decide (a ≤ b)))
  | .gtr => some (.b (decide (a > b)))
  | .geq => some (.b (decide (a ≥ b)))
  | _ => none
def shV (op : BinOp) (k : IntKind) (a b : Int) : Option V :=
  if b < 0 then none else match op with
  | .shl => some (.i k (wr k (a * pow2 (min b.toNat k.bits))))
  | .shr => some (.i k (a.fdiv (pow2 (min b.toNat k.bits))))
  | _ => none

section
variable {P : Program} (tb : Tb P) {B : Nat → Prop} {W w : World} {r : Rho} {H : LH}

theorem intV_sound {op : BinOp} {k : IntKind} {a b : Int} {t : TypeId} {v : V} (h : intV op k a b = some v) (r : Rho) (w : World) :
    (binOp op t (.int k a) (.int k b)).run P w = .ok (con r v) w ∧ ∀ n, okV n v := by
  unfold intV at h
  cases op <;> simp only at h
  case quo =>
    split at h
    · cases h
    · next hb => injection h with h; subst h; exact ⟨by simp [binOp, Op.intDiv, hb, con, wr_eq], fun _ => trivial⟩
  case rem =>
    split at h
    · cases h
    · next hb => injection h with h; subst h; exact ⟨by simp [binOp, Op.intDiv, hb, con], fun _ => trivial⟩
  all_goals first
    | (cases h; done)
    | (injection h with h; subst h; exact ⟨by simp [binOp, Op.intArith, Op.intCmp, con, wr_eq, intBits_and, intBits_or, intBits_xor, intBits_andNot], fun _ => trivial⟩)
theorem shV_sound {op : BinOp} {k k' : IntKind} {a b : Int} {t : TypeId} {v : V} (h : shV op k a b = some v) (r : Rho) (w : World) :
    (binOp op t (.int k a) (.int k' b)).run P w = .ok (con r v) w ∧ ∀ n, okV n v := by
  unfold shV at h
  split at h
  · cases h
  · next hb =>
    cases op <;> simp only at h <;> first
      | (cases h; done)
      | (injection h with h; subst h; exact ⟨by simp [binOp, Op.shift, hb, con, wr_eq, pow2_eq], fun _ => trivial⟩)

/-! ### Equality -/
mutual
def eqIn : Nat → TypeId → V → V → Option Bool
  | 0, _, _, _ => none
  | d + 1, t, x, y =>
    match x, y with
    | .b a, .b b => match tb.und t with | some .bool => some (a == b) | _ => none
    | .i k a, .i k' b => match tb.und t with | some (.int _) => if k = k' then some (a == b) else none | _ => none
    | .s a, .s b => match tb.und t with | some .string => some (a.toList == b.toList) | _ => none
    | .p none, .p b => match tb.und t with | some (.pointer _) => some b.isNone | _ => none
    | .p (some x), .p (some y) => if x = y then (match tb.und t with | some (.pointer e) => (match tb.sz e with | some _ => some true | none => none) | _ => none) else none
    | .p (some _), .p none => match tb.und t with | some (.pointer _) => some false | _ => none
    | .sl none _ _ _, .sl b _ _ _ => match tb.und t with | some (.slice _) => some b.isNone | _ => none
    | .sl (some _) _ _ _, .sl none _ _ _ => match tb.und t with | some (.slice _) => some false | _ => none
    | .nif, .nif => match tb.und t with | some (.interface _) => some true | _ => none
    | .nif, .ifc _ _ => match tb.und t with | some (.interface _) => some false | _ => none
    | .ifc _ _, .nif => match tb.und t with | some (.interface _) => some false | _ => none
    | .nf, .nf => match tb.und t with | some (.func _ _ _) => some true | _ => none
    | .nf, .fn _ _ => match tb.und t with | some (.func _ _ _) => some false | _ => none
    | .fn _ _, .nf => match tb.und t with | some (.func _ _ _) => some false | _ => none
    | .agg xs, .agg ys => match tb.und t with
      | some (.struct fs) => if P.stoodInHeld t then none else eqFs d fs.toList xs ys
      | some (.array len e) => match tb.sz e with | some z => eqEs d e z (List.range len) xs ys | none => none
      | _ => none
    | _, _ => none
def eqFs : Nat → List Field → List V → List V → Option Bool
  | 0, _, _, _ => none
  | _ + 1, [], _, _ => some true
  | d + 1, f :: fs, xs, ys =>
    if f.name = "_" then eqFs d fs xs ys else
    match partV f.type xs f.offset, partV f.type ys f.offset with
    | some a, some b => match eqIn d f.type a b with
      | some true => eqFs d fs xs ys
      | some false => some false
      | none => none
    | _, _ => none
def eqEs : Nat → TypeId → Nat → List Nat → List V → List V → Option Bool
  | 0, _, _, _, _, _ => none
  | _ + 1, _, _, [], _, _ => some true
  | d + 1, e, z, i :: is, xs, ys =>
    match partV e xs (i * z), partV e ys (i * z) with
    | some a, some b => match eqIn d e a b with
      | some true => eqEs d e z is xs ys
      | some false => some false
      | none => none
    | _, _ => none
def partV (t : TypeId) (cs : List V) (o : Nat) : Option V :=
  match isAgg tb t with
  | some true => match tb.sz t with
    | some n => let x := (cs.drop o).take n; if x.length = n then some (.agg x) else none
    | none => none
  | some false => cs[o]?
  | none => none
end

theorem partV_sound {t : TypeId} {cs : List V} {o : Nat} {v : V} (h : partV tb t cs o = some v) (r : Rho) (w : World) :
    (part t (conL r cs).toArray o).run P w = .ok (con r v) w ∧ ∀ n, okL n cs → okV n v := by
  unfold partV at h
  split at h
  · next ha =>
    split at h
    · next n hn =>
      simp only at h
      split at h
      · next hl =>
        injection h with h; subst h
        refine ⟨?_, fun m hm => (okL_iff _ _).2 fun v hv => (okL_iff _ _).1 hm v (List.mem_of_mem_drop (List.mem_of_mem_take hv))⟩
        simp only [part, Sem.run_bind, run_isAgg tb ha, Result.andThen_ok, if_true, run_sizeOf tb hn, Sem.run_pure, con]
        congr 2
        apply Array.ext'
        rw [List.extract_toArray]
        simp only [List.extract_eq_take_drop, conL_eq, List.map_take, List.map_drop]
        rw [show o + n - o = n by omega]
      · cases h
    · cases h
  · next ha =>
    refine ⟨?_, fun m hm => (okL_iff _ _).1 hm v (List.mem_of_getElem? h)⟩
    have : (conL r cs).toArray[o]? = some (con r v) := by rw [List.getElem?_toArray, getElem?_conL, h]; rfl
    simp [part, run_isAgg tb ha, this]
  · cases h

theorem run_part_eq {t : TypeId} {cs : List V} {o : Nat} {v : V} (h : partV tb t cs o = some v) (r : Rho) (w : World) :
    (part t (conL r cs).toArray o).run P w = .ok (con r v) w := (partV_sound tb h r w).1

mutual
theorem eqIn_sound : ∀ {d : Nat} {t : TypeId} {x y : V} {b : Bool}, eqIn tb d t x y = some b → ∀ d', d ≤ d' → ∀ (r : Rho) (w : World), (Op.equalIn d' t (con r x) (con r y)).run P w = .ok b w
  | 0, _, _, _, _, h => by simp [eqIn] at h
  | d + 1, t, x, y, b, h => by
    intro d' hd r w
    obtain ⟨d', rfl⟩ : ∃ k, d' = k + 1 := ⟨d' - 1, by omega⟩
    unfold eqIn at h
    split at h
    case h_5 x y =>
      split at h
      · next e =>
        split at h
        · next el hu =>
          split at h
          · next n hn =>
            injection h with h; subst h; subst e
            obtain ⟨l, o⟩ := x
            simp only [con, Op.equalIn, Sem.run_bind, run_underlying (tb.undOk _ _ hu), Result.andThen_ok, run_sizeOf tb hn]
            by_cases h0 : n = 0
            · simp [h0]
            · simp [h0, sameAddr]
          · cases h
        · cases h
      · cases h
    all_goals (try (cases h; done))
    all_goals (split at h <;> first | (cases h; done) | skip)
    · next hu => injection h with h; subst h; exact run_equalIn_bool' w d' t _ _ (tb.undOk _ _ hu)
    · next hu =>
      split at h
      · next e => injection h with h; subst h; subst e; exact run_equalIn_int w d' t _ _ _ _ (tb.undOk _ _ hu)
      · cases h
    · next hu => injection h with h; subst h; exact run_equalIn_string w d' t _ _ (tb.undOk _ _ hu)
    · next a _ _ hu => injection h with h; subst h; cases a <;> simp [con, Op.equalIn, run_underlying (tb.undOk _ _ hu)]
    · next hu => injection h with h; subst h; simp [con, Op.equalIn, run_underlying (tb.undOk _ _ hu)]
    · next b _ _ _ _ _ hu => injection h with h; subst h; cases b <;> simp [con, Op.equalIn, run_underlying (tb.undOk _ _ hu)]
    · next hu => injection h with h; subst h; simp [con, Op.equalIn, run_underlying (tb.undOk _ _ hu)]
    · next hu => injection h with h; subst h; simp [con, Op.equalIn, run_underlying (tb.undOk _ _ hu)]
    · next hu => injection h with h; subst h; simp [con, Op.equalIn, run_underlying (tb.undOk _ _ hu)]
    · next hu => injection h with h; subst h; simp [con, Op.equalIn, run_underlying (tb.undOk _ _ hu)]
    · next hu => injection h with h; subst h; simp [con, Op.equalIn, run_underlying (tb.undOk _ _ hu)]
    · next hu => injection h with h; subst h; simp [con, Op.equalIn, run_underlying (tb.undOk _ _ hu)]
    · next hu => injection h with h; subst h; simp [con, Op.equalIn, run_underlying (tb.undOk _ _ hu)]
    · next fs hu =>
      split at h
      · cases h
      · next hp =>
        have hu' := tb.undOk _ _ hu
        have hf : P.fieldsOf t = fs := by simp [Program.fieldsOf, hu']
        simp only [con]
        rw [run_equalIn_struct w d' t _ _ (by rw [hf]; exact hu') (by simpa using hp), hf]
        exact eqFs_sound h d' (by omega) r w
    · next len e hu =>
      split at h
      · next z hz =>
        have hu' := tb.undOk _ _ hu
        obtain ⟨i, hi, _⟩ := tb.info hz
        simp only [con]
        rw [run_equalIn_array w d' _ _ hu' hi, cellsOf_of tb hz]
        exact eqEs_sound h d' (by omega) r w
      · cases h
theorem eqEs_sound : ∀ {d : Nat} {e : TypeId} {z : Nat} {is : List Nat} {xs ys : List V} {b : Bool}, eqEs tb d e z is xs ys = some b → ∀ d', d ≤ d' → ∀ (r : Rho) (w : World), (Op.eqItems d' e z (conL r xs).toArray (conL r ys).toArray is).run P w = .ok b w
  | 0, _, _, _, _, _, _, h => by simp [eqEs] at h
  | d + 1, e, z, [], xs, ys, b, h => by
    intro d' hd r w
    simp only [eqEs] at h; injection h with h; subst h
    rfl
  | d + 1, e, z, i :: is, xs, ys, b, h => by
    intro d' hd r w
    simp only [eqEs] at h
    simp only [Op.eqItems]
    split at h
    · next a c ha hc =>
      simp only [Sem.run_bind, run_part_eq tb ha, run_part_eq tb hc, Result.andThen_ok]
      split at h
      · next q =>
        rw [eqIn_sound q d' (by omega)]
        simp only [Result.andThen_ok, Bool.not_true, Bool.false_eq_true, if_false]
        exact eqEs_sound h d' (by omega) r w
      · next q =>
        injection h with h; subst h
        rw [eqIn_sound q d' (by omega)]
        simp
      · cases h
    · cases h
theorem eqFs_sound : ∀ {d : Nat} {fs : List Field} {xs ys : List V} {b : Bool}, eqFs tb d fs xs ys = some b → ∀ d', d ≤ d' → ∀ (r : Rho) (w : World), (Op.eqFields d' (conL r xs).toArray (conL r ys).toArray fs).run P w = .ok b w
  | 0, _, _, _, _, h => by simp [eqFs] at h
  | d + 1, [], xs, ys, b, h => by
    intro d' hd r w
    simp only [eqFs] at h; injection h with h; subst h
    rfl
  | d + 1, f :: fs, xs, ys, b, h => by
    intro d' hd r w
    simp only [eqFs] at h
    simp only [Op.eqFields]
    split at h
    · next e => rw [if_neg (by simp [e])]; exact eqFs_sound h d' (by omega) r w
    · next e =>
      rw [if_pos e]
      split at h
      · next a c ha hc =>
        simp only [Sem.run_bind, run_part_eq tb ha, run_part_eq tb hc, Result.andThen_ok]
        split at h
        · next q =>
          rw [eqIn_sound q d' (by omega)]
          simp only [Result.andThen_ok, Bool.not_true, Bool.false_eq_true, if_false]
          exact eqFs_sound h d' (by omega) r w
        · next q =>
          injection h with h; subst h
          rw [eqIn_sound q d' (by omega)]
          simp
        · cases h
      · cases h
end

def isConst : Operand → Bool
  | .const _ => true
  | _ => false
def eqV (x y : Operand) (t : TypeId) (a b : V) : Option Bool :=
  match a, b with
  | .nif, .nif => if isConst x || isConst y then eqIn tb 1 t a b else none
  | .agg _, .agg _ => if P.eqGuardType P.depth t then none else eqIn tb 100 t a b
  | _, _ => eqIn tb 1 t a b
theorem eqV_sound {x y : Operand} {t : TypeId} {a b : V} {c : Bool} (h : eqV tb x y t a b = some c) (r : Rho) (w : World) (op : BinOp) :
    (eqGuard op t x y (con r a) (con r b)).run P w = .ok () w ∧ (Op.equal t (con r a) (con r b)).run P w = .ok c w := by
  unfold eqV at h
  split at h
  · split at h
    · next hc =>
      refine ⟨?_, eqIn_sound tb h _ (by simp [Op.maxDepth]) r w⟩
      rcases Bool.or_eq_true _ _ ▸ hc with hx | hx
      · cases x <;> first | (simp [isConst] at hx; done) | (cases op <;> rfl)
      · cases y <;> first | (simp [isConst] at hx; done) | (cases op <;> cases x <;> rfl)
    · cases h
  · split at h
    · cases h
    · next hg => exact ⟨run_eqGuard_agg w op t x y _ _ (by simpa using hg), eqIn_sound tb h _ (by simp [Op.maxDepth]) r w⟩
  · next h1 h2 =>
    refine ⟨?_, eqIn_sound tb h _ (by simp [Op.maxDepth]) r w⟩
    cases a with
    | b x => simp only [con, eqGuard_at_bool, Sem.run_pure]
    | i k n => simp only [con, eqGuard_at_int, Sem.run_pure]
    | s x => simp only [con, eqGuard_at_string, Sem.run_pure]
    | p x => cases x <;> simp only [con, eqGuard_at_pointer, Sem.run_pure]
    | sl x n c o => cases x <;> simp only [con, eqGuard_at_slice, Sem.run_pure]
    | fn f cs => simp only [con, eqGuard_at_func, Sem.run_pure]
    | nf => simp only [con, eqGuard_at_nilFunc, Sem.run_pure]
    | ifc t v => simp only [con, eqGuard_at_iface, Sem.run_pure]
    | nif => cases b with
      | nif => exact absurd rfl (h1 rfl)
      | ifc t v => simp only [con, eqGuard_nil_iface, Sem.run_pure]
      | _ => simp [eqIn] at h
    | agg l => cases b with
      | agg l' => exact absurd rfl (h2 l l' rfl)
      | _ => simp [eqIn] at h
    | tup l => simp [eqIn] at h

end

section
variable {P : Program} (tb : Tb P) {B : Nat → Prop} {W w : World} {r : Rho} {H : LH}

def binV (op : BinOp) (x y : Operand) (t : TypeId) (a b : V) : Option V :=
  match a, b with
  | .i k m, .i k' n => match op with
    | .shl | .shr => shV op k m n
    | _ => if k = k' then intV op k m n else none
  | .s m, .s n => match op with
    | .eql => some (.b (m.toList == n.toList))
    | .neq => some (.b (!(m.toList == n.toList)))
    | .lss => some (.b (Op.bytesLess m.toList n.toList))
    | .add => if m.size + n.size ≤ 9223372036854775807 then some (.s (m ++ n)) else none
    | _ => none
  | a, b => match op with
    | .eql => (eqV tb x y t a b).map .b
    | .neq => (eqV tb x y t a b).map fun c => .b (!c)
    | _ => none

theorem eqGuard_ints (op : BinOp) (t : TypeId) (x y : Operand) (k : IntKind) (n : Int) (v : Value) (w : World) : (eqGuard op t x y (.int k n) v).run P w = .ok () w := by rw [eqGuard_at_int]; rfl

theorem con_int_inv {r : Rho} {a : V} {k : IntKind} {n : Int} (h : con r a = .int k n) : a = .i k n := by
  cases a with
  | i k' n' => simp only [con, Value.int.injEq] at h; rw [h.1, h.2]
  | p q => rcases q with _ | ⟨l, o⟩ <;> simp [con] at h
  | sl q _ _ _ => rcases q with _ | ⟨l, o⟩ <;> simp [con] at h
  | _ => simp [con] at h
theorem con_str_inv {r : Rho} {a : V} {s : ByteArray} (h : con r a = .string s) : a = .s s := by
  cases a with
  | s x => simp only [con, Value.string.injEq] at h; rw [h]
  | p q => rcases q with _ | ⟨l, o⟩ <;> simp [con] at h
  | sl q _ _ _ => rcases q with _ | ⟨l, o⟩ <;> simp [con] at h
  | _ => simp [con] at h
theorem con_float {r : Rho} {a : V} {k : FloatKind} {n : Nat} (h : con r a = .float k n) : False := by
  cases a with
  | p q => rcases q with _ | ⟨l, o⟩ <;> simp [con] at h
  | sl q _ _ _ => rcases q with _ | ⟨l, o⟩ <;> simp [con] at h
  | _ => simp [con] at h
theorem con_complex {r : Rho} {a : V} {k : FloatKind} {n m : Nat} (h : con r a = .complex k n m) : False := by
  cases a with
  | p q => rcases q with _ | ⟨l, o⟩ <;> simp [con] at h
  | sl q _ _ _ => rcases q with _ | ⟨l, o⟩ <;> simp [con] at h
  | _ => simp [con] at h

theorem run_eql_any (t : TypeId) (a b : V) (h1 : ∀ k m k' n, a = .i k m → b = .i k' n → False) (h2 : ∀ m n, a = .s m → b = .s n → False) (r : Rho) (c : Bool) (w : World)
    (h : (Op.equal t (con r a) (con r b)).run P w = .ok c w) :
    (binOp .eql t (con r a) (con r b)).run P w = .ok (.bool c) w ∧ (binOp .neq t (con r a) (con r b)).run P w = .ok (.bool (!c)) w := by
  have key : ∀ x y : Value, (∀ k m k' n, x = .int k m → y = .int k' n → False) → (∀ m n, x = .string m → y = .string n → False) → (∀ k m, x ≠ .float k m) → (∀ k m n, x ≠ .complex k m n) →
      (binOp .eql t x y = (do pure (.bool (← Op.equal t x y)) : Sem Value)) ∧ (binOp .neq t x y = (do pure (.bool (!(← Op.equal t x y))) : Sem Value)) := by
    intro x y h1 h2 h3 h4
    cases x <;> cases y <;> first | exact (h1 _ _ _ _ rfl rfl).elim | exact (h2 _ _ rfl rfl).elim | exact absurd rfl (h3 _ _) | exact absurd rfl (h4 _ _ _) | exact ⟨rfl, rfl⟩
  obtain ⟨e1, e2⟩ := key (con r a) (con r b) (fun k m k' n ha hb => h1 _ _ _ _ (con_int_inv ha) (con_int_inv hb)) (fun m n ha hb => h2 _ _ (con_str_inv ha) (con_str_inv hb))
    (fun k m ha => con_float ha) (fun k m n ha => con_complex ha)
  rw [e1, e2]
  simp [h]

theorem binV_sound {op : BinOp} {x y : Operand} {t : TypeId} {a b v : V} (h : binV tb op x y t a b = some v) (r : Rho) (w : World) :
    (eqGuard op t x y (con r a) (con r b)).run P w = .ok () w ∧ (binOp op t (con r a) (con r b)).run P w = .ok (con r v) w ∧ ∀ n, okV n v := by
  unfold binV at h
  split at h
  · next k m k' n =>
    refine ⟨eqGuard_ints _ _ _ _ _ _ _ _, ?_⟩
    split at h
    · exact shV_sound h r w
    · exact shV_sound h r w
    · split at h
      · next e => subst e; exact intV_sound h r w
      · cases h
  · next m n =>
    refine ⟨by simp only [con, eqGuard_at_string, Sem.run_pure], ?_⟩
    split at h
    · injection h with h; subst h; exact ⟨by simp only [con, binOp_string_eql]; rfl, fun _ => trivial⟩
    · injection h with h; subst h; exact ⟨by simp only [con, binOp_string_neq]; rfl, fun _ => trivial⟩
    · injection h with h; subst h; exact ⟨by simp only [con, binOp_string_lss]; rfl, fun _ => trivial⟩
    · split at h
      · next hs =>
        injection h with h; subst h
        refine ⟨?_, fun _ => trivial⟩
        have : ¬ ((m.size + n.size : Nat) : Int) > IntKind.i64.max := by rw [IntKind.max_i64]; omega
        simp only [con, binOp_string_add, Op.stringOp, if_neg this]
        rfl
      · cases h
    · cases h
  · next h1 h2 =>
    split at h
    · obtain ⟨c, hc, hv⟩ := Option.map_eq_some_iff.1 h
      subst hv
      obtain ⟨e1, e2⟩ := eqV_sound tb hc r w .eql
      exact ⟨e1, (run_eql_any t a b (fun _ _ _ _ => h1 _ _ _ _) (fun _ _ => h2 _ _) r c w e2).1, fun _ => trivial⟩
    · obtain ⟨c, hc, hv⟩ := Option.map_eq_some_iff.1 h
      subst hv
      obtain ⟨e1, e2⟩ := eqV_sound tb hc r w .neq
      exact ⟨e1, (run_eql_any t a b (fun _ _ _ _ => h1 _ _ _ _) (fun _ _ => h2 _ _) r c w e2).2, fun _ => trivial⟩
    · cases h

def unV (op : UnOp) (a : V) : Option V :=
  match op, a with
  | .neg, .i k n => some (.i k (wr k (0 - n)))
  | .xor, .i k n => some (.i k (bits .xor k (if k.signed then -1 else k.max) n))
  | .not, .b x => some (.b (!x))
  | _, _ => none
theorem unV_sound {op : UnOp} {a v : V} (h : unV op a = some v) (r : Rho) (w : World) : (Op.unary op (con r a)).run P w = .ok (con r v) w ∧ ∀ n, okV n v := by
  unfold unV at h
  split at h
  · injection h with h; subst h; exact ⟨by simp [con, Op.unary, Op.intArith, wr_eq], fun _ => trivial⟩
  · injection h with h; subst h; exact ⟨by simp only [con, Op.unary, intBits_xor, Sem.run_pure], fun _ => trivial⟩
  · injection h with h; subst h; exact ⟨by simp [con, Op.unary], fun _ => trivial⟩
  · cases h

def cvV (src dst : TypeId) (a : V) : Option V :=
  match tb.und src, tb.und dst, a with
  | some (.int _), some (.int k), .i _ n => some (.i k (wr k n))
  | some .string, some .string, .s x => some (.s x)
  | _, _, _ => none
theorem cvV_sound {src dst : TypeId} {a v : V} (h : cvV tb src dst a = some v) (r : Rho) (w : World) : (convert src dst (con r a)).run P w = .ok (con r v) w ∧ ∀ n, okV n v := by
  unfold cvV at h
  split at h
  · next hs hd => injection h with h; subst h; exact ⟨by simp [con, convert, run_underlying (tb.undOk _ _ hs), run_underlying (tb.undOk _ _ hd), Conv.intToInt, wr_eq], fun _ => trivial⟩
  · next hs hd => injection h with h; subst h; exact ⟨by simp [con, convert, run_underlying (tb.undOk _ _ hs), run_underlying (tb.undOk _ _ hd)], fun _ => trivial⟩
  · cases h

def mkIf (t : TypeId) (a : V) : Option V :=
  match tb.und t with
  | some (.interface _) | none => none
  | some _ => some (.ifc t a)
theorem mkIf_sound {t : TypeId} {a v : V} (h : mkIf tb t a = some v) (r : Rho) (w : World) : (Instr.makeInterface t (con r a)).run P w = .ok (con r v) w ∧ ∀ n, okV n a → okV n v := by
  unfold mkIf at h
  split at h
  · cases h
  · cases h
  · next d hn hu =>
    injection h with h; subst h
    refine ⟨?_, fun _ h => h⟩
    have hu := tb.undOk _ _ hu
    cases d <;> first | exact absurd hu (by intro h; exact hn _ rfl) | simp [Instr.makeInterface, run_underlying hu, con]

/-- A bound of a cut. -/
def bdV : Option V → Option (Option Int)
  | none => some none
  | some (.i _ n) => some (some n)
  | _ => none

end

section
variable {P : Program} (tb : Tb P) {B : Nat → Prop} {W w : World} {r : Rho} {H : LH}

def mxB (cap : Nat) : Option V → Option Nat
  | none => some cap
  | some (.i _ n) => if 0 ≤ n then (if n ≤ cap then some n.toNat else none) else none
  | _ => none
def hiB (len m : Nat) (mx : Option V) : Option V → Option Nat
  | none => match mx with | none => some len | some _ => none
  | some (.i _ n) => if 0 ≤ n then (if n ≤ m then some n.toNat else none) else none
  | _ => none
def loB (h : Nat) : Option V → Option Nat
  | none => some 0
  | some (.i _ n) => if 0 ≤ n then (if n ≤ h then some n.toNat else none) else none
  | _ => none
def bnds (len cap : Nat) (lo hi mx : Option V) : Option (Nat × Nat × Nat) :=
  match mxB cap mx with
  | none => none
  | some m => match hiB len m mx hi with
    | none => none
    | some h => match loB h lo with
      | none => none
      | some l => some (l, h, m)
/-- The capacity in the world: what is known, and what stands behind it where nothing cut it. -/
theorem bnds_sound {len cap l h m ex : Nat} {lo hi mx : Option V} (hb : bnds len cap lo hi mx = some (l, h, m)) (isSlice : Bool) (r : Rho) (w : World) :
    (Instr.sliceBounds isSlice len (cap + ex) (lo.map (con r)) (hi.map (con r)) (mx.map (con r))).run P w = .ok (l, h, if mx.isSome then m else m + ex) w ∧ (mx.isSome = false → m = cap) ∧ m ≤ cap := by
  unfold bnds at hb
  split at hb
  · cases hb
  · next m' hm =>
    split at hb
    · cases hb
    · next h' hh =>
      split at hb
      · cases hb
      · next l' hl =>
        simp only [Option.some.injEq, Prod.mk.injEq] at hb
        obtain ⟨rfl, rfl, rfl⟩ := hb
        -- the upper one
        have hL : ∀ (cd : BoundsCode) (x y : Nat), ((match lo.map (con r) with | some v => (do let l ← Instr.sliceBound v h' cd; pure (l, x, y)) | none => (do let l ← pure 0; pure (l, x, y)) : Sem (Nat × Nat × Nat))).run P w = .ok (l', x, y) w := fun cd x y => by
          unfold loB at hl
          split at hl
          · injection hl with hl; subst hl; rfl
          · next k n =>
            split at hl
            · next h0 =>
              split at hl
              · next h1 => injection hl with hl; subst hl; simp only [Option.map_some, con, Sem.run_bind]; rw [run_sliceBound w k n h' _ h0 h1]; rfl
              · cases hl
            · cases hl
          · cases hl
        cases mx with
        | none =>
          simp only [mxB, Option.some.injEq] at hm
          subst hm
          refine ⟨?_, fun _ => rfl, Nat.le_refl _⟩
          unfold hiB at hh
          split at hh
          · simp only [Option.some.injEq] at hh
            subst hh
            simp only [Instr.sliceBounds, Option.map_none, Sem.run_bind, Sem.run_pure, Result.andThen_ok, Option.isSome_none, Bool.false_eq_true, if_false]
            exact hL _ _ _
          · next k n =>
            split at hh
            · next h0 =>
              split at hh
              · next h1 =>
                injection hh with hh; subst hh
                simp only [Instr.sliceBounds, Option.map_none, Option.map_some, con, Sem.run_bind, Sem.run_pure, Result.andThen_ok, Option.isSome_none, Bool.false_eq_true, if_false]
                rw [run_sliceBound w k n (cap + ex) _ h0 (by omega)]
                simp only [Result.andThen_ok]
                exact hL _ _ _
              · cases hh
            · cases hh
          · cases hh
        | some mv =>
          unfold mxB at hm
          split at hm
          · next e => cases e
          · next k n e =>
            injection e with e; subst e
            split at hm
            · next h0 =>
              split at hm
              · next h1 =>
                injection hm with hm; subst hm
                refine ⟨?_, fun h => by simp at h, by omega⟩
                unfold hiB at hh
                split at hh
                · cases hh
                · next k2 n2 =>
                  split at hh
                  · next h2 =>
                    split at hh
                    · next h3 =>
                      injection hh with hh; subst hh
                      simp only [Instr.sliceBounds, Option.map_some, con, Sem.run_bind, Option.isSome_some, if_true]
                      rw [run_sliceBound w k n (cap + ex) _ h0 (by omega)]
                      simp only [Result.andThen_ok]
                      rw [run_sliceBound w k2 n2 n.toNat _ h2 (by omega)]
                      simp only [Result.andThen_ok]
                      exact hL _ _ _
                    · cases hh
                  · cases hh
                · cases hh
              · cases hm
            · cases hm
          · cases hm

def cA (r : Rho) (a : Option (Nat × Nat)) : Option Addr := match a with | some (l, o) => some ((r l).1.add o) | none => none
def adv (a : Option (Nat × Nat)) (n : Nat) : Option (Nat × Nat) := a.map fun (l, o) => (l, o + n)
theorem con_adv (r : Rho) (a : Option (Nat × Nat)) (k n c : Nat) : con r (.sl (adv a k) n c false) = .slice ((cA r a).map (·.add k)) n c := by
  rcases a with _ | ⟨l, o⟩
  · rfl
  · simp [adv, con, cA, add_add]

def slV (t : TypeId) (x : V) (lo hi mx : Option V) : Option V :=
  match tb.und t, x with
  | some .string, .s s => match mx with
    | some _ => none
    | none => match bnds s.size s.size lo hi none with
      | some (l, h, _) => some (.s (s.extract l h))
      | none => none
  | some (.slice e), .sl a len cap op => match bnds len cap lo hi mx, tb.sz e with
    | some (l, h, m), some z =>
      if mx.isSome || !op then some (.sl (if m = l then a else adv a (l * z)) (h - l) (m - l) false)
      else if l = 0 then some (.sl a h m true)
      else if l < m then some (.sl (adv a (l * z)) (h - l) (m - l) true)
      else none
    | _, _ => none
  | some (.array n e), .p (some (b, o)) => match bnds n n lo hi mx, tb.sz e with
    | some (l, h, m), some z => some (.sl (some (b, if m = l then o else o + l * z)) (h - l) (m - l) false)
    | _, _ => none
  | _, _ => none

theorem okV_adv {n : Nat} {a : Option (Nat × Nat)} {k x y : Nat} {o o' : Bool} {x' y' : Nat} (h : okV n (.sl a x y o)) : okV n (.sl (adv a k) x' y' o') := by
  rcases a with _ | ⟨l, q⟩
  · trivial
  · exact h
theorem okV_sl {n : Nat} {a : Option (Nat × Nat)} {x y : Nat} {o o' : Bool} {x' y' : Nat} (h : okV n (.sl a x y o)) : okV n (.sl a x' y' o') := by
  rcases a with _ | ⟨l, q⟩
  · trivial
  · exact h

theorem slV_sound {t : TypeId} {x v : V} {lo hi mx : Option V} (h : slV tb t x lo hi mx = some v) (r : Rho) (w : World) :
    (Instr.sliceAt t (con r x) (lo.map (con r)) (hi.map (con r)) (mx.map (con r))).run P w = .ok (con r v) w ∧ ∀ n, okV n x → okV n v := by
  unfold slV at h
  split at h
  · next s hu =>
    have hu := tb.undOk _ _ hu
    split at h
    · cases h
    · split at h
      · next l hh m hb =>
        injection h with h; subst h
        have := (bnds_sound (P := P) (ex := 0) hb false r w).1
        simp only [Nat.add_zero, Option.map_none, Option.isSome_none, Bool.false_eq_true, if_false] at this
        refine ⟨?_, fun _ _ => trivial⟩
        simp only [Option.map_none, con]
        rw [run_sliceAt_string w t _ _ _ _ hu]
        simp [Instr.slice, run_underlying hu, this]
      · cases h
  · next e a len cap op hu =>
    have hu := tb.undOk _ _ hu
    split at h
    · next l hh m z hb hz =>
      have hel : P.elem t = e := by simp [Program.elem, hu]
      have key : ∀ ex : Nat, (Instr.sliceAt t (.slice (cA r a) len (cap + ex)) (lo.map (con r)) (hi.map (con r)) (mx.map (con r))).run P w =
          .ok (.slice (if (if mx.isSome then m else m + ex) = l then cA r a else (cA r a).map (·.add (l * z))) (hh - l) ((if mx.isSome then m else m + ex) - l)) w := fun ex => by
        rw [run_sliceAt_slice w t _ _ _ _ (by rw [hel]; exact hu)]
        have := (bnds_sound (P := P) (ex := ex) hb true r w).1
        simp [Instr.slice, run_underlying hu, this, run_sizeOf tb hz]
      split at h
      · next hc =>
        injection h with h; subst h
        -- what stands behind is not asked
        have hx : ∃ ex, con r (.sl a len cap op) = .slice (cA r a) len (cap + ex) ∧ (mx.isSome = false → ex = 0) := by
          rcases a with _ | ⟨b, o⟩
          · exact ⟨0, rfl, fun _ => rfl⟩
          · cases op
            · exact ⟨0, by simp [con, cA], fun _ => rfl⟩
            · exact ⟨(r b).2, by simp [con, cA], fun hn => by rw [hn] at hc; simp at hc⟩
        obtain ⟨ex, hx1, hx2⟩ := hx
        rw [hx1, key ex]
        have hm : (if mx.isSome then m else m + ex) = m := by
          cases hms : mx.isSome
          · rw [hx2 hms]; simp
          · simp
        rw [hm]
        refine ⟨?_, fun n hn => by
          split
          · exact okV_sl hn
          · exact okV_adv hn⟩
        split
        · next e => rcases a with _ | ⟨b, o⟩ <;> simp [con, cA]
        · next e => rw [con_adv]
      · next hc =>
        simp only [Bool.or_eq_true, Bool.not_eq_true', not_or, Bool.not_eq_false, Bool.not_eq_true] at hc
        obtain ⟨hc1, hc2⟩ := hc
        have hx : ∃ ex, con r (.sl a len cap op) = .slice (cA r a) len (cap + ex) ∧ ∀ k n c, con r (.sl (adv a k) n c true) = .slice ((cA r a).map (·.add k)) n (c + ex) := by
          rcases a with _ | ⟨b, o⟩
          · exact ⟨0, rfl, fun _ _ _ => rfl⟩
          · exact ⟨(r b).2, by simp [con, cA, hc2], fun k n c => by simp [adv, con, cA, add_add]⟩
        obtain ⟨ex, hx1, hx2⟩ := hx
        split at h
        · next h0 =>
          injection h with h; subst h; subst h0
          rw [hx1, key ex]
          refine ⟨?_, fun n hn => okV_sl hn⟩
          rw [hc1]
          have := hx2 0 hh m
          have ha : adv a 0 = a := by rcases a with _ | ⟨b, o⟩ <;> rfl
          rw [ha] at this
          rw [this]
          rcases a with _ | ⟨b, o⟩ <;> simp [cA, add_add]
        · split at h
          · next hlm =>
            injection h with h; subst h
            rw [hx1, key ex, hx2]
            refine ⟨?_, fun n hn => okV_adv hn⟩
            rw [hc1]
            simp only [Bool.false_eq_true, if_false]
            rw [if_neg (by omega), show m - l + ex = m + ex - l by omega]
          · cases h
    · cases h
  · next n e b o hu =>
    have hu := tb.undOk _ _ hu
    split at h
    · next l hh m z hb hz =>
      injection h with h; subst h
      have := (bnds_sound (P := P) (ex := 0) hb false r w)
      obtain ⟨h1, h2, h3⟩ := this
      have hm : (if mx.isSome then m else m + 0) = m := by split <;> rfl
      rw [hm, Nat.add_zero] at h1
      refine ⟨?_, fun _ h => h⟩
      simp only [con, Instr.sliceAt, Sem.run_bind, run_underlying hu, Result.andThen_ok, Instr.sureAddr, Sem.run_pure, h1, run_sizeOf tb hz, Bool.false_eq_true, if_false]
      split
      · rfl
      · rw [add_add]
    · cases h
  · cases h

/-! ### Places of fields and elements -/
def faV (s : TypeId) (x : V) (f : Nat) : Option V :=
  match tb.und s, x with
  | some (.struct fs), .p (some (l, o)) => match fs[f]? with
    | some g => match tb.sz g.type with
      | some 0 => none
      | some _ => some (.p (some (l, o + g.offset)))
      | none => none
    | none => none
  | _, _ => none
theorem faV_sound {s : TypeId} {x v : V} {f : Nat} (h : faV tb s x f = some v) (r : Rho) (w : World) :
    (Instr.fieldAt s (con r x) f).run P w = .ok (con r v) w ∧ ∀ n, okV n x → okV n v := by
  unfold faV at h
  split at h
  · next fs l o hu =>
    have hu := tb.undOk _ _ hu
    split at h
    · next g hg =>
      split at h
      · cases h
      · next n hn hz =>
        injection h with h; subst h
        refine ⟨?_, fun _ h => h⟩
        have hn0 : ¬ n = 0 := fun e => hn (by rw [← e])
        simp [Instr.fieldAt, run_underlying hu, hg, con, Instr.sureAddr, fieldPlace, run_sizeOf tb hz, hn0, add_add]
      · cases h
    · cases h
  · cases h

def fdV (s : TypeId) (x : V) (f : Nat) : Option V :=
  match tb.und s, x with
  | some (.struct fs), .agg cs => match fs[f]? with
    | some g => partV tb g.type cs g.offset
    | none => none
  | _, _ => none
theorem fdV_sound {s : TypeId} {x v : V} {f : Nat} (h : fdV tb s x f = some v) (r : Rho) (w : World) :
    (Instr.field s (con r x) f).run P w = .ok (con r v) w ∧ ∀ n, okV n x → okV n v := by
  unfold fdV at h
  split at h
  · next fs cs hu =>
    have hu := tb.undOk _ _ hu
    split at h
    · next g hg =>
      obtain ⟨h1, h2⟩ := partV_sound tb h r w
      exact ⟨by simp [Instr.field, run_underlying hu, hg, con, asAgg, h1], fun n hn => h2 n hn⟩
    · cases h
  · cases h

def iaV (t : TypeId) (x ix : V) : Option V :=
  match ix with
  | .i _ i => match tb.und t, x with
    | some (.array len e), .p (some (l, o)) => match tb.sz e with
      | some z => if 0 ≤ i then (if i < len then some (.p (some (l, o + i.toNat * z))) else none) else none
      | none => none
    | some (.slice e), .sl (some (l, o)) len _ _ => match tb.sz e with
      | some z => if 0 ≤ i then (if i < len then some (.p (some (l, o + i.toNat * z))) else none) else none
      | none => none
    | _, _ => none
  | _ => none
theorem iaV_sound {t : TypeId} {x ix v : V} (h : iaV tb t x ix = some v) (r : Rho) (w : World) :
    (Instr.indexAt t (con r x) (con r ix)).run P w = .ok (con r v) w ∧ ∀ n, okV n x → okV n v := by
  unfold iaV at h
  split at h
  · next k i =>
    split at h
    · next len e l o hu =>
      have hu := tb.undOk _ _ hu
      split at h
      · next z hz =>
        split at h
        · next h0 =>
          split at h
          · next h1 =>
            injection h with h; subst h
            refine ⟨?_, fun _ h => h⟩
            simp [Instr.indexAt, run_underlying hu, con, asIntOf, Instr.sureAddr, h0, h1, run_sizeOf tb hz, add_add]
          · cases h
        · cases h
      · cases h
    · next e l o len c op hu =>
      have hu := tb.undOk _ _ hu
      split at h
      · next z hz =>
        split at h
        · next h0 =>
          split at h
          · next h1 =>
            injection h with h; subst h
            refine ⟨?_, fun _ h => h⟩
            simp [Instr.indexAt, run_underlying hu, con, asIntOf, h0, h1, run_sizeOf tb hz, add_add]
          · cases h
        · cases h
      · cases h
    · cases h
  · cases h

def ixV (t : TypeId) (x ix : V) : Option V :=
  match ix with
  | .i _ i => match tb.und t, x with
    | some (.array len e), .agg cs => match tb.sz e with
      | some z => if 0 ≤ i then (if i < len then partV tb e cs (i.toNat * z) else none) else none
      | none => none
    | some .string, .s s => if 0 ≤ i then (match s[i.toNat]? with | some b => some (.i .u8 b.toNat) | none => none) else none
    | _, _ => none
  | _ => none
theorem ixV_sound {t : TypeId} {x ix v : V} (h : ixV tb t x ix = some v) (r : Rho) (w : World) :
    (Instr.index t (con r x) (con r ix)).run P w = .ok (con r v) w ∧ ∀ n, okV n x → okV n v := by
  unfold ixV at h
  split at h
  · next k i =>
    split at h
    · next len e cs hu =>
      have hu := tb.undOk _ _ hu
      split at h
      · next z hz =>
        split at h
        · next h0 =>
          split at h
          · next h1 =>
            obtain ⟨h2, h3⟩ := partV_sound tb h r w
            exact ⟨by simp [Instr.index, run_underlying hu, con, asIntOf, h0, h1, run_sizeOf tb hz, h2], fun n hn => h3 n hn⟩
          · cases h
        · cases h
      · cases h
    · next s hu =>
      have hu := tb.undOk _ _ hu
      split at h
      · next h0 =>
        split at h
        · next b hb =>
          injection h with h; subst h
          exact ⟨by simp [Instr.index, run_underlying hu, con, asIntOf, h0, hb], fun _ _ => trivial⟩
        · cases h
      · cases h
    · cases h
  · cases h

def exV (x : V) (i : Nat) : Option V :=
  match x with
  | .tup l => l[i]?
  | _ => none
theorem exV_sound {x v : V} {i : Nat} (h : exV x i = some v) (r : Rho) (w : World) : (Instr.extract (con r x) i).run P w = .ok (con r v) w ∧ ∀ n, okV n x → okV n v := by
  unfold exV at h
  split at h
  · next l =>
    have : (conL r l).toArray[i]? = some (con r v) := by rw [List.getElem?_toArray, getElem?_conL, h]; rfl
    exact ⟨by simp [Instr.extract, con, this], fun n hn => (okL_iff _ _).1 hn v (List.mem_of_getElem? h)⟩
  · cases h

/-- A type assertion to a type that is no interface. -/
def taV (x : V) (asserted : TypeId) (ok : Bool) : Option V :=
  match tb.und asserted, x with
  | some (.interface _), _ => none
  | some _, .nif => if ok then (match tb.zero asserted with | some z => some (.tup [z, .b false]) | none => none) else none
  | some _, .ifc t v => if t = asserted then some (if ok then .tup [v, .b true] else v) else
    if ok then (match tb.zero asserted with | some z => some (.tup [z, .b false]) | none => none) else none
  | _, _ => none
theorem taV_sound {x v : V} {xT asserted : TypeId} {ok : Bool} (h : taV tb x asserted ok = some v) (r : Rho) (w : World) :
    (Instr.typeAssert (con r x) xT asserted ok).run P w = .ok (con r v) w ∧ ∀ n, okV n x → okV n v := by
  unfold taV at h
  split at h
  · cases h
  · next d hn hd =>
    have hd' := tb.undOk _ _ hd
    split at h
    · next hk =>
      split at h
      · next z hz =>
        injection h with h; subst h
        obtain ⟨h1, h2⟩ := run_zeroValue tb hz r w
        refine ⟨?_, fun n _ => ⟨h2 n, trivial, trivial⟩⟩
        cases d <;> first | exact (hn _ rfl).elim | simp [Instr.typeAssert, run_underlying hd', con, conL, hk, h1]
      · cases h
    · cases h
  · next d t u hn hd =>
    have hd' := tb.undOk _ _ hd
    split at h
    · next ht =>
      injection h with h; subst h
      refine ⟨?_, fun n hn => by
        split
        · exact ⟨hn, trivial, trivial⟩
        · exact hn⟩
      cases d <;> first | exact (hn _ rfl).elim | (simp only [Instr.typeAssert, Sem.run_bind, run_underlying hd', Result.andThen_ok, con, ht, if_true, Sem.run_pure]; cases ok <;> rfl)
    · next ht =>
      split at h
      · next hk =>
        split at h
        · next z hz =>
          injection h with h; subst h
          obtain ⟨h1, h2⟩ := run_zeroValue tb hz r w
          refine ⟨?_, fun n _ => ⟨h2 n, trivial, trivial⟩⟩
          cases d <;> first | exact (hn _ rfl).elim | simp [Instr.typeAssert, run_underlying hd', con, conL, hk, h1, ht]
        · cases h
      · cases h
  · cases h

end

end Go.Proofs.Ytnogdgdkeojlpaa.Am
