/- The abstract machine, part 4: small memories in great ones, one step at a time. No conditions beyond those of each theorem. -/
import Derived.Test.YtnogdgdkeojlpaaAm3
set_option linter.unusedSimpArgs false
set_option linter.unusedVariables false
namespace Go.Proofs.Ytnogdgdkeojlpaa.Am
open Go.RowKit (Below)

mutual
def mapV (s : Nat → Nat) : V → V
  | .b x => .b x
  | .i k n => .i k n
  | .s x => .s x
  | .p none => .p none
  | .p (some (l, o)) => .p (some (s l, o))
  | .sl none n c op => .sl none n c op
  | .sl (some (l, o)) n c op => .sl (some (s l, o)) n c op
  | .fn f cs => .fn f (mapL s cs)
  | .nf => .nf
  | .ifc t v => .ifc t (mapV s v)
  | .nif => .nif
  | .agg l => .agg (mapL s l)
  | .tup l => .tup (mapL s l)
def mapL (s : Nat → Nat) : List V → List V
  | [] => []
  | v :: l => mapV s v :: mapL s l
end
theorem mapL_eq (s : Nat → Nat) (l : List V) : mapL s l = l.map (mapV s) := by
  induction l with
  | nil => rfl
  | cons v l ih => simp [mapL, ih]

mutual
theorem con_map (s : Nat → Nat) (r : Rho) : ∀ v, con r (mapV s v) = con (fun l => r (s l)) v
  | .b _ => rfl
  | .i _ _ => rfl
  | .s _ => rfl
  | .p none => rfl
  | .p (some (l, o)) => rfl
  | .sl none _ _ _ => rfl
  | .sl (some (l, o)) _ _ _ => rfl
  | .fn f cs => by simp [mapV, con, conL_map s r cs]
  | .nf => rfl
  | .ifc t v => by simp [mapV, con, con_map s r v]
  | .nif => rfl
  | .agg l => by simp [mapV, con, conL_map s r l]
  | .tup l => by simp [mapV, con, conL_map s r l]
theorem conL_map (s : Nat → Nat) (r : Rho) : ∀ l, conL r (mapL s l) = conL (fun l => r (s l)) l
  | [] => rfl
  | v :: l => by simp [mapL, conL, con_map s r v, conL_map s r l]
end
mutual
theorem okV_map {s : Nat → Nat} {n m : Nat} (h : ∀ l, l < n → s l < m) : ∀ v, okV n v → okV m (mapV s v)
  | .b _, _ => trivial
  | .i _ _, _ => trivial
  | .s _, _ => trivial
  | .p none, _ => trivial
  | .p (some (l, _)), hv => h l hv
  | .sl none _ _ _, _ => trivial
  | .sl (some (l, _)) _ _ _, hv => h l hv
  | .fn _ cs, hv => okL_map h cs hv
  | .nf, _ => trivial
  | .ifc _ v, hv => okV_map h v hv
  | .nif, _ => trivial
  | .agg l, hv => okL_map h l hv
  | .tup l, hv => okL_map h l hv
theorem okL_map {s : Nat → Nat} {n m : Nat} (h : ∀ l, l < n → s l < m) : ∀ l, okL n l → okL m (mapL s l)
  | [], _ => trivial
  | v :: l, hv => ⟨okV_map h v hv.1, okL_map h l hv.2⟩
end
theorem mapL_length (s : Nat → Nat) (l : List V) : (mapL s l).length = l.length := by rw [mapL_eq, List.length_map]

def T.map {α β : Type} (f : α → β) : T α → T β
  | .e => .e
  | .n l v r => .n (l.map f) (v.map f) (r.map f)
theorem T.get_map {α β : Type} (f : α → β) : ∀ (t : T α) (k : Nat), (t.map f).get k = (t.get k).map f
  | .e, k => by cases k <;> rfl
  | .n l v r, 0 => rfl
  | .n l v r, k + 1 => by
    simp only [T.map, T.get]
    split
    · exact T.get_map f l _
    · exact T.get_map f r _

def puts {α : Type} : List (Nat × Option α) → T α → T α
  | [], m => m
  | (k, x) :: L, m => (puts L m).put k x
theorem get_puts {α : Type} (m : T α) (l : Nat) : ∀ (L : List (Nat × Option α)), (∃ x, (l, x) ∈ L ∧ (puts L m).get l = x) ∨ ((∀ k x, (k, x) ∈ L → k ≠ l) ∧ (puts L m).get l = m.get l)
  | [] => .inr ⟨fun _ _ h => by simp at h, rfl⟩
  | (k, x) :: L => by
    simp only [puts, T.get_put]
    by_cases e : l = k
    · subst e; exact .inl ⟨x, by simp, by simp⟩
    · rw [if_neg e]
      rcases get_puts m l L with ⟨y, h1, h2⟩ | ⟨h1, h2⟩
      · exact .inl ⟨y, by simp [h1], h2⟩
      · refine .inr ⟨fun k' x' h' => ?_, h2⟩
        rcases List.mem_cons.1 h' with h' | h'
        · injection h' with h3 h4; subst h3; exact fun e' => e e'.symm
        · exact h1 k' x' h'

/-- Where the small memory's numbers go: the new ones behind all. -/
def over (s : Nat → Nat) (n N : Nat) (j : Nat) : Nat := if j < n then s j else N + (j - n)
def ownB (s : Nat → Nat) : Option Blk → Option Blk
  | some ⟨c, e, true⟩ => some ⟨mapL s c, e, true⟩
  | _ => none
theorem ownB_some {s : Nat → Nat} {x : Option Blk} {b : Blk} (h : ownB s x = some b) : ∃ c e, x = some ⟨c, e, true⟩ ∧ b = ⟨mapL s c, e, true⟩ := by
  unfold ownB at h
  split at h
  · next c e => injection h with h; exact ⟨c, e, rfl, h.symm⟩
  · cases h
def isOwn : Option Blk → Bool
  | some ⟨_, _, true⟩ => true
  | _ => false
theorem isOwn_iff {x : Option Blk} : isOwn x = true ↔ ∃ b, x = some b ∧ b.own = true := by
  rcases x with _ | ⟨c, e, o⟩
  · simp [isOwn]
  · cases o <;> simp [isOwn]
def oldPuts (s s' : Nat → Nat) (h h' : LH) : List (Nat × Option Blk) := ((List.range h.next).filter fun k => isOwn (h.get k)).map fun k => (s k, ownB s' (h'.get k))
def newPuts (s' : Nat → Nat) (n N : Nat) (h' : LH) : List (Nat × Option Blk) := (List.range (h'.next - n)).map fun j => (N + j, ownB s' (h'.get (n + j)))
def plug (s : Nat → Nat) (h H h' : LH) : LH :=
  ⟨H.next + (h'.next - h.next), H.ro, puts (newPuts (over s h.next H.next) h.next H.next h' ++ oldPuts s (over s h.next H.next) h h') H.m⟩

/-- The small memory lies in the great one. -/
structure Emb (s : Nat → Nat) (h H : LH) : Prop where
  lt : ∀ l, l < h.next → s l < H.next
  roLe : h.ro ≤ h.next
  wf : ∀ l b, h.get l = some b → l < h.next ∧ okL h.next b.cells
  own : ∀ l b, h.get l = some b → b.own = true → H.ro ≤ s l ∧ H.get (s l) = some ⟨mapL s b.cells, b.elem, true⟩
  ro : ∀ l b, h.get l = some b → b.own = false → ∀ (j : Nat) (v : V), b.cells[j]? = some v → ∃ b' : Blk, H.get (s l) = some b' ∧ b'.cells[j]? = some (mapV s v)
  inj : ∀ l l' b b', h.get l = some b → b.own = true → h.get l' = some b' → s l = s l' → l = l'

section
variable {s : Nat → Nat} {h H h' : LH}
theorem plug_get {l : Nat} {b : Blk} (hw : ∀ l b, h.get l = some b → l < h.next) (hg : (plug s h H h').get l = some b) :
    (H.get l = some b ∧ ∀ k b0, h.get k = some b0 → b0.own = true → s k ≠ l) ∨
    (∃ j c e, h'.get j = some ⟨c, e, true⟩ ∧ l = over s h.next H.next j ∧ b = ⟨mapL (over s h.next H.next) c, e, true⟩) := by
  simp only [plug, LH.get] at hg
  rcases get_puts H.m l _ with ⟨x, hx, hx2⟩ | ⟨hx, hx2⟩
  · rw [hg] at hx2
    subst hx2
    rcases List.mem_append.1 hx with hx | hx
    · simp only [newPuts, List.mem_map, List.mem_range, Prod.mk.injEq] at hx
      obtain ⟨j, hj, hl, hb⟩ := hx
      obtain ⟨c, e, h1, h2⟩ := ownB_some hb
      exact .inr ⟨h.next + j, c, e, h1, by rw [over, if_neg (by omega), ← hl]; omega, h2⟩
    · simp only [oldPuts, List.mem_map, List.mem_filter, List.mem_range, Prod.mk.injEq] at hx
      obtain ⟨k, ⟨hk, _⟩, hl, hb⟩ := hx
      obtain ⟨c, e, h1, h2⟩ := ownB_some hb
      exact .inr ⟨k, c, e, h1, by rw [over, if_pos hk, hl], h2⟩
  · rw [hg] at hx2
    refine .inl ⟨hx2.symm, fun k b0 hk ho e => hx (s k) (ownB (over s h.next H.next) (h'.get k)) (List.mem_append.2 (.inr ?_)) e⟩
    simp only [oldPuts, List.mem_map, List.mem_filter, List.mem_range, Prod.mk.injEq]
    exact ⟨k, ⟨hw k b0 hk, isOwn_iff.2 ⟨b0, hk, ho⟩⟩, rfl, rfl⟩
theorem plug_low {l : Nat} (E : Emb s h H) (hr : H.ro ≤ H.next) (hl : l < H.ro) : (plug s h H h').get l = H.get l := by
  simp only [plug, LH.get]
  rcases get_puts H.m l (newPuts (over s h.next H.next) h.next H.next h' ++ oldPuts s (over s h.next H.next) h h') with ⟨x, hx, hx2⟩ | ⟨hx, hx2⟩
  · exfalso
    rcases List.mem_append.1 hx with hx | hx
    · simp only [newPuts, List.mem_map, List.mem_range, Prod.mk.injEq] at hx
      obtain ⟨j, hj, hl', _⟩ := hx
      omega
    · simp only [oldPuts, List.mem_map, List.mem_filter, List.mem_range, Prod.mk.injEq] at hx
      obtain ⟨k, ⟨_, hk⟩, hl', _⟩ := hx
      obtain ⟨b, hb, ho⟩ := isOwn_iff.1 hk
      have := (E.own k b hb ho).1
      omega
  · exact hx2

variable {P : Program} {B : Nat → Prop} {W w : World} {r : Rho}

/-- All but the small memory's own blocks. -/
def guard (s : Nat → Nat) (h : LH) (r : Rho) (w : World) (k : Nat) : Prop := k < w.heap.size ∧ ¬ ∃ l b, h.get l = some b ∧ b.own = true ∧ (r (s l)).1.block = k

theorem RelH.own_lt (R : RelH P B W r H w) {l : Nat} {b : Blk} (hl : H.get l = some b) (ho : b.own = true) : (r l).1.block < w.heap.size := by
  obtain ⟨k, pre, ext, fr, h1, h2, h3, _⟩ := R.own l b hl ho
  rw [h1]; exact (Array.getElem?_eq_some_iff.1 h3).1
theorem RelH.own_not (R : RelH P B W r H w) {l : Nat} {b : Blk} (hl : H.get l = some b) (ho : b.own = true) : ¬ B (r l).1.block := by
  obtain ⟨k, pre, ext, fr, h1, h2, h3, _⟩ := R.own l b hl ho
  rw [h1]; exact h2

theorem Emb.down (E : Emb s h H) (R : RelH P B W r H w) : RelH P (guard s h r w) w (fun l => r (s l)) h w := by
  refine ⟨fun k hk => hk.1, Below.refl _ _, E.roLe, fun l b hl => (E.wf l b hl).1, fun l b hl => (E.wf l b hl).2, fun l b hl ho j v hj => ?_, fun l b hl ho => ?_, fun l l' b b' hl ho hl' ho' e => ?_⟩
  · obtain ⟨b', hb', hj'⟩ := E.ro l b hl ho j v hj
    have hc := R.cell hb' hj'
    rw [con_map] at hc
    refine ⟨⟨?_, ?_⟩, hc⟩
    · have := World.block_lt_of_cell? _ _ hc
      have hbk : ((r (s l)).1.add j).block = (r (s l)).1.block := by unfold Addr.add; split <;> rfl
      rw [← hbk]; exact this
    · rintro ⟨l2, b2, h2, o2, e2⟩
      have hq := (E.own l2 b2 h2 o2).2
      cases hbo : b'.own with
      | true =>
        have := R.inj (s l2) (s l) _ b' hq rfl hb' hbo e2
        have := E.inj l2 l b2 b h2 o2 hl this
        subst this
        rw [hl] at h2; injection h2 with h2; subst h2
        rw [ho] at o2; cases o2
      | false =>
        have h3 := (R.ro (s l) b' hb' hbo j _ hj').1
        rw [← e2] at h3
        exact R.own_not hq rfl h3
  · have hq := (E.own l b hl ho).2
    obtain ⟨k, pre, ext, fr, h1, h2, h3, h4, h5⟩ := R.own (s l) _ hq rfl
    simp only [conL_map, mapL_length] at h3 h4 h5
    exact ⟨k, pre, ext, fr, h1, fun hg => hg.2 ⟨l, b, hl, ho, by rw [h1]⟩, h3, h4, h5⟩
  · have := R.inj (s l) (s l') _ _ (E.own l b hl ho).2 rfl (E.own l' b' hl' ho').2 rfl e
    exact E.inj l l' b b' hl ho hl' this

theorem Emb.up (E : Emb s h H) (R : RelH P B W r H w) {r1 : Rho} {w' : World} (he : Ext h.next (fun l => r (s l)) r1) (R1 : RelH P (guard s h r w) w r1 h' w') (K : Keeps h h') :
    ∃ r2, Ext H.next r r2 ∧ (∀ j, j < h'.next → r2 (over s h.next H.next j) = r1 j) ∧ RelH P B W r2 (plug s h H h') w' ∧ Keeps H (plug s h H h') := by
  let r2 : Rho := fun k => if k < H.next then r k else r1 (h.next + (k - H.next))
  have hx : Ext H.next r r2 := fun l hl => by simp [r2, hl]
  have hov : ∀ j, r2 (over s h.next H.next j) = r1 j := fun j => by
    by_cases hj : j < h.next
    · have hs := E.lt j hj
      simp only [over, if_pos hj, r2, if_pos hs]
      exact (he j hj).symm
    · simp only [over, if_neg hj, r2]
      rw [if_neg (by omega)]
      congr 1; omega
  have hG : ∀ k, B k → guard s h r w k := fun k hk => ⟨R.size k hk, fun ⟨l, b, hl, ho, e⟩ => by
    rw [← e] at hk; exact R.own_not (E.own l b hl ho).2 rfl hk⟩
  have hfree : ∀ l b, H.get l = some b → b.own = true → (∀ k b0, h.get k = some b0 → b0.own = true → s k ≠ l) → guard s h r w (r l).1.block := fun l b hl ho hn =>
    ⟨R.own_lt hl ho, fun ⟨l2, b2, h2, o2, e2⟩ => hn l2 b2 h2 o2 (R.inj (s l2) l _ b (E.own l2 b2 h2 o2).2 rfl hl ho e2)⟩
  have hcon : ∀ c, okL h'.next c → conL r2 (mapL (over s h.next H.next) c) = conL r1 c := fun c hc => by
    rw [conL_map]
    exact conL_ext (fun l hl => hov l) c hc
  have hnx := K.next
  have hget := fun l b => plug_get (s := s) (h := h) (H := H) (h' := h') (l := l) (b := b) (fun l b hl => (E.wf l b hl).1)
  have hlt : ∀ j, j < h'.next → over s h.next H.next j < H.next + (h'.next - h.next) := fun j hj => by
    unfold over
    split
    · next hj' => have := E.lt j hj'; omega
    · omega
  refine ⟨r2, hx, fun j _ => hov j, ⟨R.base, R.below.trans (R1.below.mono hG), ?_, ?_, ?_, ?_, ?_, ?_⟩, ⟨rfl, ?_, fun l hl => plug_low E R.roLe hl⟩⟩
  · have := R.roLe
    simp only [plug]; omega
  · intro l b hl
    show l < H.next + (h'.next - h.next)
    rcases hget l b hl with ⟨h1, _⟩ | ⟨j, c, e, h1, h2, _⟩
    · have := R.lt l b h1; omega
    · rw [h2]; exact hlt j (R1.lt j _ h1)
  · intro l b hl
    show okL (H.next + (h'.next - h.next)) _
    rcases hget l b hl with ⟨h1, _⟩ | ⟨j, c, e, h1, _, h2⟩
    · exact okL_mono (by omega) _ (R.ok l b h1)
    · rw [h2]; exact okL_map hlt _ (R1.ok j _ h1)
  · intro l b hl ho
    rcases hget l b hl with ⟨h1, _⟩ | ⟨j, c, e, h1, _, h2⟩
    · exact (R.ro l b h1 ho).ext (R.lt l b h1) (R.ok l b h1) hx (fun k hk => R1.below.block k (hG k hk))
    · rw [h2] at ho; cases ho
  · intro l b hl ho
    rcases hget l b hl with ⟨h1, hn⟩ | ⟨j, c, e, h1, h2, h3⟩
    · exact (R.own l b h1 ho).ext (R.lt l b h1) (R.ok l b h1) hx (R1.below.block _ (hfree l b h1 ho hn))
    · obtain ⟨k, pre, ext, fr, g1, g2, g3, g4, g5⟩ := R1.own j _ h1 rfl
      subst h3; subst h2
      refine ⟨k, pre, ext, fr, by rw [hov]; exact g1, fun hk => g2 (hG k hk), ?_, by rw [hov]; exact g4, by rw [mapL_length]; exact g5⟩
      simp only
      rw [hcon _ (R1.ok j _ h1)]
      exact g3
  · intro l l' b b' hl ho hl' ho' e
    rcases hget l b hl with ⟨h1, hn⟩ | ⟨j, c, ee, h1, h2, h3⟩ <;> rcases hget l' b' hl' with ⟨h1', hn'⟩ | ⟨j', c', ee', h1', h2', h3'⟩
    · rw [hx l (R.lt l b h1), hx l' (R.lt l' b' h1')] at e
      exact R.inj l l' b b' h1 ho h1' ho' e
    · exfalso
      rw [hx l (R.lt l b h1), h2', hov] at e
      have := hfree l b h1 ho hn
      rw [e] at this
      exact R1.own_not h1' rfl this
    · exfalso
      rw [hx l' (R.lt l' b' h1'), h2, hov] at e
      have := hfree l' b' h1' ho' hn'
      rw [← e] at this
      exact R1.own_not h1 rfl this
    · rw [h2, h2', hov, hov] at e
      have := R1.inj j j' _ _ h1 rfl h1' rfl e
      rw [h2, h2', this]
  · show H.next ≤ H.next + (h'.next - h.next); omega

/-- A call in a greater memory. -/
theorem FC.emb {g : FuncId} {vs : List V} {v : V} (hf : FC P g vs h v h') (E : Emb s h H) (hok : okL h.next vs) : FC P g (mapL s vs) H (mapV (over s h.next H.next) v) (plug s h H h') := by
  intro B W r w _ R
  rw [conL_map]
  refine (hf _ w _ w hok (E.down R)).mono fun e w' ⟨u, hu, r1, hv, hx, hokv, R1, K⟩ => ?_
  obtain ⟨r2, hx2, hov, R2, K2⟩ := E.up R hx R1 K
  refine ⟨u, hu, r2, ?_, hx2, ?_, R2, K2⟩
  · rw [hv, con_map]
    exact (con_ext (fun l hl => hov l hl) v hokv).symm
  · refine okV_map (fun j hj => ?_) v hokv
    show over s h.next H.next j < H.next + (h'.next - h.next)
    have := K.next
    unfold over
    split
    · next hj' => have := E.lt j hj'; omega
    · omega
end

section
variable {P : Program} {s : Nat → Nat} {h H h' : LH} {n : Nat} {c : Code} {t t' T1 : T V} {x : Ex}

theorem over_lt (E : Emb s h H) (hn : h.next ≤ h'.next) : ∀ j, j < h'.next → over s h.next H.next j < (plug s h H h').next := fun j hj => by
  show _ < H.next + (h'.next - h.next)
  unfold over
  split
  · next hj' => have := E.lt j hj'; omega
  · omega

theorem relF_down {r : Rho} {a : Act} (ht : ∀ k v, t.get k = some v → okV h.next v ∧ T1.get k = some (mapV s v)) (F : RelF r H.next n T1 a) : RelF (fun l => r (s l)) h.next n t a :=
  ⟨F.size, F.defers, fun k v hk => by rw [F.get k _ (ht k v hk).2, con_map], fun k v hk => (ht k v hk).1⟩
theorem relF_up {r1 r2 : Rho} {a : Act} {s' : Nat → Nat} {N N' : Nat} (hov : ∀ j, j < N → r2 (s' j) = r1 j) (hlt : ∀ j, j < N → s' j < N') (F : RelF r1 N n t' a) : RelF r2 N' n (t'.map (mapV s')) a := by
  refine ⟨F.size, F.defers, fun k v hk => ?_, fun k v hk => ?_⟩ <;> (rw [T.get_map] at hk; obtain ⟨v0, h0, rfl⟩ := Option.map_eq_some_iff.1 hk)
  · rw [F.get k v0 h0, con_map]
    exact (con_ext (fun l hl => hov l hl) v0 (F.ok k v0 h0)).symm
  · exact okV_map hlt v0 (F.ok k v0 h0)

theorem CC.emb (hc : CC P n c t h x t' h') (E : Emb s h H) (ht : ∀ k v, t.get k = some v → okV h.next v ∧ T1.get k = some (mapV s v)) :
    CC P n c T1 H x (t'.map (mapV (over s h.next H.next))) (plug s h H h') := by
  intro B W r a w F R Q hQ
  refine hc _ w _ a w (relF_down ht F) (E.down R) Q fun r1 a' w' hx F1 R1 K => ?_
  obtain ⟨r2, hx2, hov, R2, K2⟩ := E.up R hx R1 K
  exact hQ r2 a' w' hx2 (relF_up hov (over_lt E K.next) F1) R2 K2
theorem LC.emb (hc : LC P n c t h x t' h') (E : Emb s h H) (ht : ∀ k v, t.get k = some v → okV h.next v ∧ T1.get k = some (mapV s v)) :
    LC P n c T1 H x (t'.map (mapV (over s h.next H.next))) (plug s h H h') := by
  obtain ⟨m, hc⟩ := hc
  refine ⟨m, fun B W r a w F R Q hQ => ?_⟩
  refine hc _ w _ a w (relF_down ht F) (E.down R) Q fun r1 a' w' hx F1 R1 K => ?_
  obtain ⟨r2, hx2, hov, R2, K2⟩ := E.up R hx R1 K
  exact hQ r2 a' w' hx2 (relF_up hov (over_lt E K.next) F1) R2 K2

/-- A memory seen by numbers of one's own: 'v' tells which is which. -/
structure View (v : Nat → Nat) (h h1 h2 : LH) : Prop where
  id : ∀ l, l < h.next → v l = l
  next : h.next ≤ h2.next
  ro : h2.ro = h.ro
  wf : ∀ l b, h2.get l = some b → l < h2.next ∧ okL h2.next b.cells ∧ h1.get (v l) = some ⟨mapL v b.cells, b.elem, b.own⟩
  inj : ∀ l l' b b', h2.get l = some b → b.own = true → h2.get l' = some b' → b'.own = true → v l = v l' → l = l'
  low : ∀ l, l < h.ro → h2.get l = h.get l

variable {v : Nat → Nat} {h1 h2 : LH} {B : Nat → Prop} {W w w' : World} {r r1 : Rho}
theorem View.relH (V : View v h h1 h2) (R : RelH P B W r h w) (R1 : RelH P B W r1 h1 w') : RelH P B W (fun l => r1 (v l)) h2 w' := by
  refine ⟨R1.base, R1.below, ?_, fun l b hl => (V.wf l b hl).1, fun l b hl => (V.wf l b hl).2.1, fun l b hl ho j u hj => ?_, fun l b hl ho => ?_, fun l l' b b' hl ho hl' ho' e => ?_⟩
  · rw [V.ro]; exact Nat.le_trans R.roLe V.next
  · have := R1.ro (v l) _ (V.wf l b hl).2.2 ho j (mapV v u) (by simp [mapL_eq, hj])
    rw [con_map] at this
    exact this
  · obtain ⟨k, pre, ext, fr, g1, g2, g3, g4, g5⟩ := R1.own (v l) _ (V.wf l b hl).2.2 ho
    simp only [conL_map, mapL_length] at g3 g4 g5
    exact ⟨k, pre, ext, fr, g1, g2, g3, g4, g5⟩
  · exact V.inj l l' b b' hl ho hl' ho' (R1.inj (v l) (v l') _ _ (V.wf l b hl).2.2 ho (V.wf l' b' hl').2.2 ho' e)
theorem View.ext (V : View v h h1 h2) (hx : Ext h.next r r1) : Ext h.next r (fun l => r1 (v l)) := fun l hl => by
  show r1 (v l) = r l
  rw [V.id l hl]; exact hx l hl
theorem View.keeps (V : View v h h1 h2) : Keeps h h2 := ⟨V.ro, V.next, V.low⟩

theorem FC.view {g : FuncId} {vs : List V} {u : V} (hf : FC P g vs h (mapV v u) h1) (V : View v h h1 h2) (hu : okV h2.next u) : FC P g vs h u h2 := by
  intro B W r w hok R
  refine (hf B W r w hok R).mono fun e w' ⟨y, hy, r1, hv, hx, _, R1, _⟩ => ⟨y, hy, fun l => r1 (v l), ?_, V.ext hx, hu, V.relH R R1, V.keeps⟩
  rw [hv, con_map]
theorem CC.view {t1 t2 : T V} (hc : CC P n c t h x t1 h1) (V : View v h h1 h2) (ht : ∀ k u, t2.get k = some u → okV h2.next u ∧ t1.get k = some (mapV v u)) : CC P n c t h x t2 h2 := by
  intro B W r a w F R Q hQ
  refine hc B W r a w F R Q fun r1 a' w' hx F1 R1 _ => ?_
  exact hQ (fun l => r1 (v l)) a' w' (V.ext hx) (relF_down ht F1) (V.relH R R1) V.keeps
theorem LC.view {t1 t2 : T V} (hc : LC P n c t h x t1 h1) (V : View v h h1 h2) (ht : ∀ k u, t2.get k = some u → okV h2.next u ∧ t1.get k = some (mapV v u)) : LC P n c t h x t2 h2 := by
  obtain ⟨m, hc⟩ := hc
  refine ⟨m, fun B W r a w F R Q hQ => ?_⟩
  refine hc B W r a w F R Q fun r1 a' w' hx F1 R1 _ => ?_
  exact hQ (fun l => r1 (v l)) a' w' (V.ext hx) (relF_down ht F1) (V.relH R R1) V.keeps

/-! ### Memories and slots written out -/
def memT : List (Option Blk) → Nat → T Blk
  | [], _ => .e
  | b :: l, k => (memT l (k + 1)).put k b
def mem (ro : Nat) (l : List (Option Blk)) : LH := ⟨l.length, ro, memT l 0⟩
theorem memT_get : ∀ (l : List (Option Blk)) (k j : Nat), (memT l k).get j = if k ≤ j then (l[j - k]?).join else none
  | [], k, j => by simp [memT, T.get]
  | b :: l, k, j => by
    simp only [memT, T.get_put, memT_get l (k + 1) j]
    by_cases h1 : j = k
    · subst h1; simp
    · rw [if_neg h1]
      by_cases h2 : k + 1 ≤ j
      · rw [if_pos h2, if_pos (by omega), show j - k = (j - (k + 1)) + 1 by omega, List.getElem?_cons_succ]
      · rw [if_neg h2, if_neg (by omega)]
theorem mem_get (ro : Nat) (l : List (Option Blk)) (k : Nat) : (mem ro l).get k = (l[k]?).join := by
  show (memT l 0).get k = _
  rw [memT_get]; simp
theorem mem_get_some {ro : Nat} {l : List (Option Blk)} {k : Nat} {b : Blk} (hg : (mem ro l).get k = some b) : l[k]? = some (some b) := by
  rw [mem_get] at hg
  cases hl : l[k]? with
  | none => rw [hl] at hg; cases hg
  | some y => rw [hl] at hg; simp only [Option.join] at hg; rw [← hg]; rfl

def slt : List (Nat × V) → T V
  | [] => .e
  | (k, v) :: l => (slt l).put k (some v)
theorem slt_get : ∀ {l : List (Nat × V)} {k : Nat} {v : V}, (slt l).get k = some v → (k, v) ∈ l
  | [], k, v, h => by simp [slt, T.get] at h
  | (j, u) :: l, k, v, h => by
    simp only [slt, T.get_put] at h
    split at h
    · next e => injection h with h; subst h; subst e; simp
    · exact List.mem_cons_of_mem _ (slt_get h)

mutual
theorem mapV_plain (s : Nat → Nat) : ∀ v, okV 0 v → mapV s v = v
  | .b _, _ => rfl
  | .i _ _, _ => rfl
  | .s _, _ => rfl
  | .p none, _ => rfl
  | .p (some (l, _)), hv => absurd hv (Nat.not_lt_zero l)
  | .sl none _ _ _, _ => rfl
  | .sl (some (l, _)) _ _ _, hv => absurd hv (Nat.not_lt_zero l)
  | .fn _ cs, hv => by simp only [mapV, mapL_plain s cs hv]
  | .nf, _ => rfl
  | .ifc _ v, hv => by simp only [mapV, mapV_plain s v hv]
  | .nif, _ => rfl
  | .agg l, hv => by simp only [mapV, mapL_plain s l hv]
  | .tup l, hv => by simp only [mapV, mapL_plain s l hv]
theorem mapL_plain (s : Nat → Nat) : ∀ l, okL 0 l → mapL s l = l
  | [], _ => rfl
  | v :: l, hv => by simp only [mapL, mapV_plain s v hv.1, mapL_plain s l hv.2]
end

/-- Every block of a memory that is written out lies in another one. -/
def embP (s : Nat → Nat) (H : LH) (n : Nat) : Nat → List (Option Blk) → Prop
  | _, [] => True
  | i, none :: l => s i < H.next ∧ embP s H n (i + 1) l
  | i, some ⟨c, e, true⟩ :: l => s i < H.next ∧ okL n c ∧ H.ro ≤ s i ∧ H.get (s i) = some ⟨mapL s c, e, true⟩ ∧ embP s H n (i + 1) l
  | i, some ⟨c, _, false⟩ :: l => s i < H.next ∧ okL n c ∧ (∃ e o, H.get (s i) = some ⟨mapL s c, e, o⟩) ∧ embP s H n (i + 1) l
def own2 (s : Nat → Nat) (l : List (Option Blk)) : Bool :=
  (List.range l.length).all fun i => !isOwn ((l[i]?).join) || (List.range l.length).all fun j => Nat.beq i j || !((l[j]?).join).isSome || !Nat.beq (s i) (s j)

theorem embP_spec {s : Nat → Nat} {H : LH} {n : Nat} : ∀ (l : List (Option Blk)) (i : Nat), embP s H n i l →
    (∀ j, j < l.length → s (i + j) < H.next) ∧ ∀ j b, l[j]? = some (some b) → okL n b.cells ∧ (b.own = true → H.ro ≤ s (i + j) ∧ H.get (s (i + j)) = some ⟨mapL s b.cells, b.elem, true⟩) ∧
      (b.own = false → ∃ e o, H.get (s (i + j)) = some ⟨mapL s b.cells, e, o⟩)
  | [], i, _ => ⟨fun j hj => absurd hj (Nat.not_lt_zero _), fun j b hb => by simp at hb⟩
  | none :: l, i, hp => by
    obtain ⟨h1, h2⟩ := embP_spec l (i + 1) hp.2
    refine ⟨fun j hj => ?_, fun j b hb => ?_⟩
    · cases j with
      | zero => exact hp.1
      | succ j => rw [show i + (j + 1) = i + 1 + j by omega]; exact h1 j (by simpa using hj)
    · cases j with
      | zero => simp at hb
      | succ j => rw [show i + (j + 1) = i + 1 + j by omega]; exact h2 j b (by simpa using hb)
  | some ⟨c, e, true⟩ :: l, i, hp => by
    obtain ⟨g1, g2, g3, g4, g5⟩ := hp
    obtain ⟨h1, h2⟩ := embP_spec l (i + 1) g5
    refine ⟨fun j hj => ?_, fun j b hb => ?_⟩
    · cases j with
      | zero => exact g1
      | succ j => rw [show i + (j + 1) = i + 1 + j by omega]; exact h1 j (by simpa using hj)
    · cases j with
      | zero =>
        simp only [List.getElem?_cons_zero, Option.some.injEq] at hb
        subst hb
        exact ⟨g2, fun _ => ⟨g3, g4⟩, fun h => by cases h⟩
      | succ j => rw [show i + (j + 1) = i + 1 + j by omega]; exact h2 j b (by simpa using hb)
  | some ⟨c, e, false⟩ :: l, i, hp => by
    obtain ⟨g1, g2, g3, g5⟩ := hp
    obtain ⟨h1, h2⟩ := embP_spec l (i + 1) g5
    refine ⟨fun j hj => ?_, fun j b hb => ?_⟩
    · cases j with
      | zero => exact g1
      | succ j => rw [show i + (j + 1) = i + 1 + j by omega]; exact h1 j (by simpa using hj)
    · cases j with
      | zero =>
        simp only [List.getElem?_cons_zero, Option.some.injEq] at hb
        subst hb
        exact ⟨g2, fun h => (by cases h), fun _ => g3⟩
      | succ j => rw [show i + (j + 1) = i + 1 + j by omega]; exact h2 j b (by simpa using hb)

theorem own2_spec {s : Nat → Nat} {l : List (Option Blk)} (h : own2 s l = true) {i j : Nat} {b b' : Blk} (hi : l[i]? = some (some b)) (ho : b.own = true) (hj : l[j]? = some (some b')) (e : s i = s j) : i = j := by
  have hil := (List.getElem?_eq_some_iff.1 hi).1
  have hjl := (List.getElem?_eq_some_iff.1 hj).1
  simp only [own2, List.all_eq_true, List.mem_range, Bool.or_eq_true, Bool.not_eq_true'] at h
  rcases h i hil with h1 | h1
  · rw [hi] at h1
    have := isOwn_iff.2 ⟨b, rfl, ho⟩
    rw [show (some (some b)).join = some b from rfl, this] at h1; cases h1
  · rcases h1 j hjl with (h2 | h2) | h2
    · exact Nat.eq_of_beq_eq_true h2
    · rw [hj] at h2; cases h2
    · rw [e, Nat.beq_refl] at h2; cases h2

theorem emb_mem {s : Nat → Nat} {H : LH} {ro : Nat} {l : List (Option Blk)} (hr : ro ≤ l.length) (hp : embP s H l.length 0 l) (ho : own2 s l = true) : Emb s (mem ro l) H := by
  obtain ⟨h1, h2⟩ := embP_spec l 0 hp
  simp only [Nat.zero_add] at h1 h2
  refine ⟨h1, hr, fun k b hk => ?_, fun k b hk hb => ?_, fun k b hk hb j u hj => ?_, fun k k' b b' hk hb hk' e => ?_⟩
  · have hk := mem_get_some hk
    exact ⟨(List.getElem?_eq_some_iff.1 hk).1, (h2 k b hk).1⟩
  · exact (h2 k b (mem_get_some hk)).2.1 hb
  · obtain ⟨e, o, hg⟩ := (h2 k b (mem_get_some hk)).2.2 hb
    exact ⟨_, hg, by simp [mapL_eq, hj]⟩
  · exact own2_spec ho (mem_get_some hk) hb (mem_get_some hk') e

/-- Every block that is looked at stands in the memory. -/
def viewP (v : Nat → Nat) (h1 : LH) (n : Nat) : Nat → List (Option Blk) → Prop
  | _, [] => True
  | i, none :: l => viewP v h1 n (i + 1) l
  | i, some ⟨c, e, o⟩ :: l => okL n c ∧ h1.get (v i) = some ⟨mapL v c, e, o⟩ ∧ viewP v h1 n (i + 1) l
theorem viewP_spec {v : Nat → Nat} {h1 : LH} {n : Nat} : ∀ (l : List (Option Blk)) (i : Nat), viewP v h1 n i l → ∀ j b, l[j]? = some (some b) → okL n b.cells ∧ h1.get (v (i + j)) = some ⟨mapL v b.cells, b.elem, b.own⟩
  | [], i, _, j, b, hb => by simp at hb
  | none :: l, i, hp, j, b, hb => by
    cases j with
    | zero => simp at hb
    | succ j => rw [show i + (j + 1) = i + 1 + j by omega]; exact viewP_spec l (i + 1) hp j b (by simpa using hb)
  | some ⟨c, e, o⟩ :: l, i, hp, j, b, hb => by
    obtain ⟨g1, g2, g3⟩ := hp
    cases j with
    | zero =>
      simp only [List.getElem?_cons_zero, Option.some.injEq] at hb
      subst hb
      exact ⟨g1, g2⟩
    | succ j => rw [show i + (j + 1) = i + 1 + j by omega]; exact viewP_spec l (i + 1) g3 j b (by simpa using hb)
theorem view_mem {v : Nat → Nat} {h h1 : LH} {l : List (Option Blk)} (hid : (List.range h.next).all (fun i => Nat.beq (v i) i) = true) (hn : Nat.ble h.next l.length = true) (hp : viewP v h1 l.length 0 l) (ho : own2 v l = true)
    (hlow : ∀ k, k < h.ro → (l[k]?).join = h.get k) : View v h h1 (mem h.ro l) := by
  have h2 := viewP_spec l 0 hp
  simp only [Nat.zero_add] at h2
  refine ⟨fun k hk => ?_, Nat.le_of_ble_eq_true hn, rfl, fun k b hk => ?_, fun k k' b b' hk hb hk' hb' e => ?_, fun k hk => by rw [mem_get]; exact hlow k hk⟩
  · exact Nat.eq_of_beq_eq_true (List.all_eq_true.1 hid k (List.mem_range.2 hk))
  · have hk := mem_get_some hk
    exact ⟨(List.getElem?_eq_some_iff.1 hk).1, h2 k b hk⟩
  · exact own2_spec ho (mem_get_some hk) hb (mem_get_some hk') e

end

inductive Fm where
  | c (c : Code)
  | b (id : Nat)
  | r (ops : Array Oper) (l : List Oper)

/-- What may be left behind: numbers below N mean what they meant, what is read only stays. -/
structure Keep0 (N : Nat) (h h' : LH) : Prop where
  ro : h'.ro = h.ro
  next : N ≤ h'.next
  low : ∀ l, l < h.ro → h'.get l = h.get l
theorem Keep0.of {N : Nat} {h h' : LH} (hn : N ≤ h.next) (K : Keeps h h') : Keep0 N h h' := ⟨K.ro, Nat.le_trans hn K.next, K.get⟩
theorem Keep0.head {N : Nat} {h h1 h' : LH} (K : Keeps h h1) (K' : Keep0 N h1 h') : Keep0 N h h' := ⟨K'.ro.trans K.ro, K'.next, fun l hl => (K'.low l (by rw [K.ro]; exact hl)).trans (K.get l hl)⟩
theorem Keep0.keeps {h h' : LH} (K : Keep0 h.next h h') : Keeps h h' := ⟨K.ro, K.next, K.low⟩

section
variable (P : Program)

def wpK : List Fm → (Exit → Act → World → Prop) → Exit → Act → World → Prop
  | [], Q => Q
  | .c c :: k, Q => Exit.then (c.wp P (wpK k Q)) (wpK k Q)
  | .b id :: k, Q => Exit.inBlock id (wpK k Q)
  | .r ops l :: k, Q => Exit.then (wpList P ops (wpK k Q) l) (wpK k Q)

/-- A call goes so. -/
def FQ (g : FuncId) (vs : List V) (h : LH) (Q : V → LH → Prop) : Prop := ∀ (B : Nat → Prop) (W : World) (r : Rho) (w : World), okL h.next vs → RelH P B W r h w →
  Calls P g (conL r vs).toArray w (fun e w' => ∃ u v h', e = .returned u ∧ Q v h' ∧ Leaves P B W r h v h' u w')

/-- Left with 'x', the stack goes so. -/
def WE (n N : Nat) (k : List Fm) (x : Ex) (t : T V) (h : LH) (Q : Ex → T V → LH → Prop) : Prop := ∀ (B : Nat → Prop) (W : World) (r : Rho) (a : Act) (w : World), N ≤ h.next → RelF r h.next n t a → RelH P B W r h w → ∀ Qw : Exit → Act → World → Prop,
  (∀ x' t' h' r' a' w', Q x' t' h' → Ext N r r' → RelF r' h'.next n t' a' → RelH P B W r' h' w' → Keep0 N h h' → Qw (conX x') a' w') → wpK P k Qw (conX x) a w
def WS (n N : Nat) (k : List Fm) (t : T V) (h : LH) (Q : Ex → T V → LH → Prop) : Prop := WE P n N k .n t h Q

/-- At most 'm' rounds of a loop go so. -/
def WL (n N : Nat) (c : Code) (m : Nat) (t : T V) (h : LH) (Q : Ex → T V → LH → Prop) : Prop := ∀ (B : Nat → Prop) (W : World) (r : Rho) (a : Act) (w : World), N ≤ h.next → RelF r h.next n t a → RelH P B W r h w → ∀ Qw : Exit → Act → World → Prop,
  (∀ x' t' h' r' a' w', Q x' t' h' → Ext N r r' → RelF r' h'.next n t' a' → RelH P B W r' h' w' → Keep0 N h h' → Qw (conX x') a' w') → Code.rounds P c Qw m a w

variable {P} {tb : Tb P}

theorem FQ.of {g : FuncId} {vs : List V} {h h' : LH} {v : V} (hf : FC P g vs h v h') : FQ P g vs h (fun u h1 => u = v ∧ h1 = h') := fun B W r w hok R =>
  (hf B W r w hok R).mono fun _ _ ⟨u, hu, hl⟩ => ⟨u, v, h', hu, ⟨rfl, rfl⟩, hl⟩
theorem FQ.fc {g : FuncId} {vs : List V} {h h' : LH} {v : V} (hf : FQ P g vs h (fun u h1 => u = v ∧ h1 = h')) : FC P g vs h v h' := fun B W r w hok R =>
  (hf B W r w hok R).mono fun _ _ ⟨u, v1, h1, hu, ⟨e1, e2⟩, hl⟩ => by subst e1; subst e2; exact ⟨u, hu, hl⟩
theorem FQ.mono {g : FuncId} {vs : List V} {h : LH} {Q Q' : V → LH → Prop} (hf : FQ P g vs h Q) (hq : ∀ v h', Q v h' → Q' v h') : FQ P g vs h Q' := fun B W r w hok R =>
  (hf B W r w hok R).mono fun _ _ ⟨u, v, h', hu, hv, hl⟩ => ⟨u, v, h', hu, hq _ _ hv, hl⟩
/-- What a call leaves, seen in another way. -/
theorem FQ.view {g : FuncId} {vs : List V} {h : LH} {Q Q' : V → LH → Prop} (hf : FQ P g vs h Q) (hq : ∀ v h1, Q v h1 → ∃ s v' h2, v = mapV s v' ∧ okV h2.next v' ∧ View s h h1 h2 ∧ Q' v' h2) : FQ P g vs h Q' := fun B W r w hok R =>
  (hf B W r w hok R).mono fun _ _ ⟨u, v, h1, hu, hv, r1, he, hx, _, R1, _⟩ => by
    obtain ⟨s, v', h2, e, ok', V, hq'⟩ := hq _ _ hv
    exact ⟨u, v', h2, hu, hq', fun l => r1 (s l), by rw [he, e, con_map], V.ext hx, ok', V.relH R R1, V.keeps⟩

theorem FQ.body {g : FuncId} {fn : Func} {c : Code} {vs : List V} {h : LH} {Q : V → LH → Prop} (hf : tb.fn g = some fn) (hb : fn.body = some c)
    (hc : WS P (vs.length + (fn.ntmps - vs.length)) h.next [.c c] (argT vs 0 .e) h (fun x t' h' => (x = .n ∨ x = .r) ∧ ∃ v, resV tb t' h' fn.results.toList = some v ∧ Q v h')) : FQ P g vs h Q := by
  intro B W r w hok R
  have F0 := relF_args r h.next fn.ntmps vs hok
  refine calls_of_wp (tb.fnOk g fn hf).1 hb ?_
  have := hc B W r _ w (Nat.le_refl _) F0 R (bodyPost P fn fun e w' => ∃ u v h', e = .returned u ∧ Q v h' ∧ Leaves P B W r h v h' u w') ?_
  · exact this
  · rintro x t' h' r' a' w' ⟨hx, v, hv, hq⟩ he F' R' K
    obtain ⟨g1, g2⟩ := resV_sound F' R' hv
    rcases hx with rfl | rfl
    · exact bodyPost_end g1 F'.defers ⟨_, v, h', rfl, hq, r', rfl, he, g2, R', K.keeps⟩
    · exact bodyPost_ret g1 F'.defers ⟨_, v, h', rfl, hq, r', rfl, he, g2, R', K.keeps⟩

variable {n N : Nat} {k : List Fm} {t t1 : T V} {h h1 : LH} {Q : Ex → T V → LH → Prop}

theorem WS.nil (hq : Q .n t h) : WS P n N [] t h Q := fun _ _ r a w hN F R _ hQ => hQ _ _ _ r a w hq (Ext.refl _ _) F R ⟨rfl, hN, fun _ _ => rfl⟩
theorem WE.nil {x : Ex} (hq : Q x t h) : WE P n N [] x t h Q := fun _ _ r a w hN F R _ hQ => hQ _ _ _ r a w hq (Ext.refl _ _) F R ⟨rfl, hN, fun _ _ => rfl⟩
theorem WS.seq {x y : Code} (k1 : WS P n N (.c x :: .c y :: k) t h Q) : WS P n N (.c (.seq x y) :: k) t h Q := fun B W r a w hN F R Qw hQ => wp_seq (k1 B W r a w hN F R Qw hQ)
theorem WS.block {id : Nat} {x : Code} (k1 : WS P n N (.c x :: .b id :: k) t h Q) : WS P n N (.c (.block id x) :: k) t h Q := fun B W r a w hN F R Qw hQ => wp_block (k1 B W r a w hN F R Qw hQ)
theorem WS.bend {id : Nat} (k1 : WS P n N k t h Q) : WS P n N (.b id :: k) t h Q := fun B W r a w hN F R Qw hQ => k1 B W r a w hN F R Qw hQ
theorem WS.skip (k1 : WS P n N k t h Q) : WS P n N (.c .skip :: k) t h Q := fun B W r a w hN F R Qw hQ => wp_skip (k1 B W r a w hN F R Qw hQ)
theorem WS.condT {c : Operand} {x y : Code} (hc : evO t c = some (.b true)) (k1 : WS P n N (.c x :: k) t h Q) : WS P n N (.c (.cond c x y) :: k) t h Q := fun B W r a w hN F R Qw hQ =>
  wp_cond_true (evO_sound F hc).1 (k1 B W r a w hN F R Qw hQ)
theorem WS.condF {c : Operand} {x y : Code} (hc : evO t c = some (.b false)) (k1 : WS P n N (.c y :: k) t h Q) : WS P n N (.c (.cond c x y) :: k) t h Q := fun B W r a w hN F R Qw hQ =>
  wp_cond_false (evO_sound F hc).1 (k1 B W r a w hN F R Qw hQ)

/-- Where an exit goes. -/
def unw (id : Nat) : List Fm → Option (List Fm)
  | [] => none
  | .b i :: k => if Nat.beq i id then some k else unw id k
  | .c _ :: k => unw id k
  | .r _ _ :: k => unw id k
theorem unw_some {id : Nat} {Qw : Exit → Act → World → Prop} {a : Act} {w : World} : ∀ {k k' : List Fm}, unw id k = some k' → wpK P k' Qw .normal a w → wpK P k Qw (.exit id) a w
  | [], _, h, _ => by cases h
  | .b i :: k, k', h, hw => by
    simp only [unw] at h
    show (if id = i then _ else _)
    split at h
    · next e => injection h with h; subst h; rw [if_pos (Nat.eq_of_beq_eq_true e).symm]; exact hw
    · next e =>
      have : ¬ id = i := fun x => e (by rw [x]; exact Nat.beq_refl _)
      rw [if_neg this]; exact unw_some h hw
  | .c _ :: k, k', h, hw => unw_some (k := k) h hw
  | .r _ _ :: k, k', h, hw => unw_some (k := k) h hw
theorem unw_none {id : Nat} {Qw : Exit → Act → World → Prop} {a : Act} {w : World} : ∀ {k : List Fm}, unw id k = none → Qw (.exit id) a w → wpK P k Qw (.exit id) a w
  | [], _, hw => hw
  | .b i :: k, h, hw => by
    simp only [unw] at h
    show (if id = i then _ else _)
    split at h
    · cases h
    · next e =>
      have : ¬ id = i := fun x => e (by rw [x]; exact Nat.beq_refl _)
      rw [if_neg this]; exact unw_none h hw
  | .c _ :: k, h, hw => unw_none (k := k) h hw
  | .r _ _ :: k, h, hw => unw_none (k := k) h hw
theorem ret_all {Qw : Exit → Act → World → Prop} {a : Act} {w : World} : ∀ {k : List Fm}, Qw .ret a w → wpK P k Qw .ret a w
  | [], hw => hw
  | .b _ :: k, hw => ret_all (k := k) hw
  | .c _ :: k, hw => ret_all (k := k) hw
  | .r _ _ :: k, hw => ret_all (k := k) hw

theorem WE.caught {id : Nat} {k' : List Fm} (hu : unw id k = some k') (k1 : WS P n N k' t h Q) : WE P n N k (.x id) t h Q := fun B W r a w hN F R Qw hQ => unw_some hu (k1 B W r a w hN F R Qw hQ)
theorem WE.out {id : Nat} (hu : unw id k = none) (k1 : Q (.x id) t h) : WE P n N k (.x id) t h Q := fun _ _ r a w hN F R _ hQ => unw_none hu (hQ _ _ _ r a w k1 (Ext.refl _ _) F R ⟨rfl, hN, fun _ _ => rfl⟩)
theorem WE.ret (k1 : Q .r t h) : WE P n N k .r t h Q := fun _ _ r a w hN F R _ hQ => ret_all (hQ _ _ _ r a w k1 (Ext.refl _ _) F R ⟨rfl, hN, fun _ _ => rfl⟩)
theorem WS.exit {id : Nat} (k1 : WE P n N k (.x id) t h Q) : WS P n N (.c (.exit id) :: k) t h Q := fun B W r a w hN F R Qw hQ => wp_exit (k1 B W r a w hN F R Qw hQ)
theorem WS.ret (k1 : WE P n N k .r t h Q) : WS P n N (.c .ret :: k) t h Q := fun B W r a w hN F R Qw hQ => wp_ret (k1 B W r a w hN F R Qw hQ)

theorem WS.region {id : Nat} {ops : Array Oper} (k1 : WS P n N (.r ops ops.toList :: k) t h Q) : WS P n N (.c (.region id ops false) :: k) t h Q := fun B W r a w hN F R Qw hQ => wp_region_list (k1 B W r a w hN F R Qw hQ)
theorem WS.draw (hm : P.follows .mixedOrders = true) {cf : CF} {id : Nat} {ops : Array Oper} (hg : Good P cf) (hs : statB ops = true) (he : evDr tb cf n ops t h = some (t1, h1)) (k1 : WS P n N k t1 h1 Q) : WS P n N (.c (.region id ops true) :: k) t h Q :=
  fun B W r a w hN F R Qw hQ => evDr_sound hm (hg.SF B W) hs he id F R fun r' a' w' hx F' R' K =>
    k1 B W r' a' w' (Nat.le_trans hN K.next) F' R' Qw fun x t2 h2 r2 a2 w2 hq hx2 F2 R2 K2 => hQ x t2 h2 r2 a2 w2 hq ((hx.mono hN).trans (Nat.le_refl _) hx2) F2 R2 (.head K K2)
theorem WS.rend {ops : Array Oper} (k1 : WS P n N k t h Q) : WS P n N (.r ops [] :: k) t h Q := fun B W r a w hN F R Qw hQ => k1 B W r a w hN F R Qw hQ

theorem WS.op {ops : Array Oper} {o : Oper} {l : List Oper} {v : V} (hf : fitK n ops o t = true) (hw : wantV ops o t = true) (hs : step tb noCalls (evO t) h o.op = some (v, h1))
    (k1 : WS P n N (.r ops l :: k) (setO t o.dst v) h1 Q) : WS P n N (.r ops (o :: l) :: k) t h Q := by
  intro B W r a w hN F R Qw hQ
  show wpList P ops (wpK P k Qw) (o :: l) a w
  unfold wpList
  rw [wantV_eq F ops o (fitK_know hf), hw, if_pos rfl]
  refine .inl (step_sound (good_none.SF B W) R (holds_of F) hs fun u w' ⟨r', hu, he, hok, R', K⟩ => ?_)
  subst hu
  exact k1 B W r' _ w' (Nat.le_trans hN K.next) ((F.ext he K.next).put (fitK_fits hf) hok) R' Qw fun x t2 h2 r2 a2 w2 hq hx2 F2 R2 K2 => hQ x t2 h2 r2 a2 w2 hq ((he.mono hN).trans (Nat.le_refl _) hx2) F2 R2 (.head K K2)
theorem WS.opno {ops : Array Oper} {o : Oper} {l : List Oper} (hf : fitK n ops o t = true) (hw : wantV ops o t = false)
    (k1 : WS P n N (.r ops l :: k) (setO t o.dst (.tup [])) h Q) : WS P n N (.r ops (o :: l) :: k) t h Q := by
  intro B W r a w hN F R Qw hQ
  show wpList P ops (wpK P k Qw) (o :: l) a w
  unfold wpList
  rw [wantV_eq F ops o (fitK_know hf), hw, if_neg (by simp)]
  exact k1 B W r _ w hN (F.undef (fitK_fits hf)) R Qw hQ
theorem WS.call {ops : Array Oper} {o : Oper} {l : List Oper} {g : FuncId} {vs : List V} {Qf : V → LH → Prop} (hf : fitK n ops o t = true) (hw : wantV ops o t = true) (hc : evCall tb (evO t) o.op = some (g, vs)) (hg : FQ P g vs h Qf)
    (k1 : ∀ v h1, Qf v h1 → WS P n N (.r ops l :: k) (setO t o.dst v) h1 Q) : WS P n N (.r ops (o :: l) :: k) t h Q := by
  intro B W r a w hN F R Qw hQ
  show wpList P ops (wpK P k Qw) (o :: l) a w
  unfold wpList
  rw [wantV_eq F ops o (fitK_know hf), hw, if_pos rfl]
  refine .inl ?_
  obtain ⟨g1, g2⟩ := evCall_sound tb (holds_of F) hc w
  unfold Oper.wp
  rw [g1, Oper.upon_enter]
  refine (hg B W r w g2 R).mono fun e w' ⟨u, v, h', hu, hq1, r', hv, he, hok, R', K⟩ => ?_
  subst hu; subst hv
  exact k1 v h' hq1 B W r' _ w' (Nat.le_trans hN K.next) ((F.ext he K.next).put (fitK_fits hf) hok) R' Qw fun x t2 h2 r2 a2 w2 hq hx2 F2 R2 K2 => hQ x t2 h2 r2 a2 w2 hq ((he.mono hN).trans (Nat.le_refl _) hx2) F2 R2 (.head K K2)

theorem WS.loop {c : Code} {m : Nat} {QL : Ex → T V → LH → Prop} (hl : WL P n h.next c m t h QL) (k1 : ∀ x t' h', QL x t' h' → WE P n N k x t' h' Q) : WS P n N (.c (.loop c) :: k) t h Q := by
  intro B W r a w hN F R Qw hQ
  refine wp_loop_rounds m (hl B W r a w (Nat.le_refl _) F R (wpK P k Qw) fun x t' h' r' a' w' hq he F' R' K => ?_)
  exact k1 x t' h' hq B W r' a' w' (Nat.le_trans hN K.next) F' R' Qw fun x2 t2 h2 r2 a2 w2 hq2 hx2 F2 R2 K2 => hQ x2 t2 h2 r2 a2 w2 hq2 ((he.mono hN).trans (Nat.le_refl _) hx2) F2 R2 (.head K.keeps K2)
/-- One round. -/
theorem WL.round {c : Code} {m : Nat} (h0 : WS P n N [.c c] t h (fun x t' h' => match x with | .n => WL P n N c m t' h' Q | x => Q x t' h')) : WL P n N c (m + 1) t h Q := by
  intro B W r a w hN F R Qw hQ
  rw [rounds_succ]
  have := h0 B W r a w hN F R (Exit.then (Code.rounds P c Qw m) Qw) ?_
  · exact this
  · intro x t' h' r' a' w' hq he F' R' K
    cases x with
    | n =>
      exact hq B W r' a' w' K.next F' R' Qw fun x2 t2 h2 r2 a2 w2 hq2 hx2 F2 R2 K2 => hQ x2 t2 h2 r2 a2 w2 hq2 (he.trans (Nat.le_refl _) hx2) F2 R2 ⟨K2.ro.trans K.ro, K2.next, fun l hl => (K2.low l (by rw [K.ro]; exact hl)).trans (K.low l hl)⟩
    | x id => exact hQ (.x id) t' h' r' a' w' hq he F' R' K
    | r => exact hQ .r t' h' r' a' w' hq he F' R' K

/-- Slots that nobody looks at, numbers that nobody means: the state seen in another way. -/
structure View0 (v : Nat → Nat) (N : Nat) (h1 h2 : LH) : Prop where
  id : ∀ l, l < N → v l = l
  next : N ≤ h2.next
  ro : h2.ro = h1.ro
  roLe : h2.ro ≤ h2.next
  wf : ∀ l b, h2.get l = some b → l < h2.next ∧ okL h2.next b.cells ∧ h1.get (v l) = some ⟨mapL v b.cells, b.elem, b.own⟩
  inj : ∀ l l' b b', h2.get l = some b → b.own = true → h2.get l' = some b' → b'.own = true → v l = v l' → l = l'
  low : ∀ l, l < h1.ro → h2.get l = h1.get l
theorem View0.relH {v : Nat → Nat} {h2 : LH} {B : Nat → Prop} {W w : World} {r : Rho} (V : View0 v N h1 h2) (R1 : RelH P B W r h1 w) : RelH P B W (fun l => r (v l)) h2 w := by
  refine ⟨R1.base, R1.below, V.roLe, fun l b hl => (V.wf l b hl).1, fun l b hl => (V.wf l b hl).2.1, fun l b hl ho j u hj => ?_, fun l b hl ho => ?_, fun l l' b b' hl ho hl' ho' e => ?_⟩
  · have := R1.ro (v l) _ (V.wf l b hl).2.2 ho j (mapV v u) (by simp [mapL_eq, hj])
    rw [con_map] at this
    exact this
  · obtain ⟨k, pre, ext, fr, g1, g2, g3, g4, g5⟩ := R1.own (v l) _ (V.wf l b hl).2.2 ho
    simp only [conL_map, mapL_length] at g3 g4 g5
    exact ⟨k, pre, ext, fr, g1, g2, g3, g4, g5⟩
  · exact V.inj l l' b b' hl ho hl' ho' (R1.inj (v l) (v l') _ _ (V.wf l b hl).2.2 ho (V.wf l' b' hl').2.2 ho' e)
theorem WE.view {v : Nat → Nat} {x : Ex} {t2 : T V} {h2 : LH} (V : View0 v N h h2) (ht : ∀ k u, t2.get k = some u → okV h2.next u ∧ t.get k = some (mapV v u)) (k1 : WE P n N k x t2 h2 Q) : WE P n N k x t h Q := by
  intro B W r a w hN F R Qw hQ
  refine k1 B W _ a w V.next (relF_down ht F) (V.relH R) Qw fun x' t' h' r' a' w' hq he F' R' K => ?_
  refine hQ x' t' h' r' a' w' hq (fun l hl => ?_) F' R' ⟨K.ro.trans V.ro, K.next, fun l hl => (K.low l (by rw [V.ro]; exact hl)).trans (V.low l hl)⟩
  rw [he l hl]
  show r (v l) = r l
  rw [V.id l hl]
theorem WS.view {v : Nat → Nat} {t2 : T V} {h2 : LH} (V : View0 v N h h2) (ht : ∀ k u, t2.get k = some u → okV h2.next u ∧ t.get k = some (mapV v u)) (k1 : WS P n N k t2 h2 Q) : WS P n N k t h Q := WE.view V ht k1
theorem WE.mono {x : Ex} {Q' : Ex → T V → LH → Prop} (hq : ∀ x t h, Q x t h → Q' x t h) (k1 : WE P n N k x t h Q) : WE P n N k x t h Q' := fun B W r a w hN F R Qw hQ =>
  k1 B W r a w hN F R Qw fun x' t' h' r' a' w' q => hQ x' t' h' r' a' w' (hq _ _ _ q)
theorem WL.view {v : Nat → Nat} {c : Code} {m : Nat} {t2 : T V} {h2 : LH} (V : View0 v N h h2) (ht : ∀ k u, t2.get k = some u → okV h2.next u ∧ t.get k = some (mapV v u)) (k1 : WL P n N c m t2 h2 Q) : WL P n N c m t h Q := by
  intro B W r a w hN F R Qw hQ
  refine k1 B W _ a w V.next (relF_down ht F) (V.relH R) Qw fun x' t' h' r' a' w' hq he F' R' K => ?_
  refine hQ x' t' h' r' a' w' hq (fun l hl => ?_) F' R' ⟨K.ro.trans V.ro, K.next, fun l hl => (K.low l (by rw [V.ro]; exact hl)).trans (V.low l hl)⟩
  rw [he l hl]
  show r (v l) = r l
  rw [V.id l hl]

/-! In a greater memory -/
variable {s : Nat → Nat} {H : LH}
theorem FQ.emb {g : FuncId} {vs : List V} {Qf : V → LH → Prop} (hf : FQ P g vs h Qf) (E : Emb s h H) (hok : okL h.next vs) :
    FQ P g (mapL s vs) H (fun u H' => ∃ v h', Qf v h' ∧ u = mapV (over s h.next H.next) v ∧ H' = plug s h H h') := by
  intro B W r w _ R
  rw [conL_map]
  refine (hf _ w _ w hok (E.down R)).mono fun e w' ⟨u, v, h', hu, hq, r1, hv, hx, hokv, R1, K⟩ => ?_
  obtain ⟨r2, hx2, hov, R2, K2⟩ := E.up R hx R1 K
  refine ⟨u, _, _, hu, ⟨v, h', hq, rfl, rfl⟩, r2, ?_, hx2, okV_map (over_lt E K.next) v hokv, R2, K2⟩
  rw [hv, con_map]
  exact (con_ext (fun l hl => hov l hl) v hokv).symm
theorem WL.emb {c : Code} {m : Nat} {T1 : T V} (hc : WL P n h.next c m t h Q) (E : Emb s h H) (ht : ∀ k v, t.get k = some v → okV h.next v ∧ T1.get k = some (mapV s v)) :
    WL P n H.next c m T1 H (fun x T' H' => ∃ t' h', Q x t' h' ∧ T' = t'.map (mapV (over s h.next H.next)) ∧ H' = plug s h H h') := by
  intro B W r a w hN F R Qw hQ
  refine hc _ w _ a w (Nat.le_refl _) (relF_down ht F) (E.down R) Qw fun x' t' h' r1 a' w' hq hx F1 R1 K => ?_
  obtain ⟨r2, hx2, hov, R2, K2⟩ := E.up R hx R1 K.keeps
  exact hQ x' _ _ r2 a' w' ⟨t', h', hq, rfl, rfl⟩ hx2 (relF_up hov (over_lt E K.next) F1) R2 (.of (Nat.le_refl _) K2)
end

/-! ### Tries: what order things were put in makes no difference -/
theorem T.setF_e {α : Type} (f k : Nat) (v : Option α) : T.setF (f + 1) .e (k + 1) v = match Nat.beq (k % 2) 0 with | true => .n (T.setF f .e (k / 2) v) none .e | false => .n .e none (T.setF f .e (k / 2) v) := rfl
theorem T.setF_n {α : Type} (f k : Nat) (l r : T α) (x v : Option α) : T.setF (f + 1) (.n l x r) (k + 1) v = match Nat.beq (k % 2) 0 with | true => .n (T.setF f l (k / 2) v) x r | false => .n l x (T.setF f r (k / 2) v) := rfl
theorem T.setF_fuel {α : Type} : ∀ (f : Nat) (t : T α) (k : Nat) (v : Option α), k < f → T.setF f t k v = T.setF (k + 1) t k v
  | 0, _, _, _, h => absurd h (Nat.not_lt_zero _)
  | f + 1, .e, 0, v, _ => rfl
  | f + 1, .n _ _ _, 0, v, _ => rfl
  | f + 1, .e, k + 1, v, h => by
    have h1 := T.setF_fuel f (.e : T α) (k / 2) v (by omega)
    have h2 := T.setF_fuel (k + 1) (.e : T α) (k / 2) v (by omega)
    rw [T.setF_e, T.setF_e, h1, h2]
  | f + 1, .n l x r, k + 1, v, h => by
    have h1 := T.setF_fuel f l (k / 2) v (by omega)
    have h2 := T.setF_fuel (k + 1) l (k / 2) v (by omega)
    have h3 := T.setF_fuel f r (k / 2) v (by omega)
    have h4 := T.setF_fuel (k + 1) r (k / 2) v (by omega)
    rw [T.setF_n, T.setF_n, h1, h2, h3, h4]
theorem T.setF_setF {α : Type} : ∀ (f : Nat) (t : T α) (k : Nat) (v u : Option α), k < f → T.setF f (T.setF f t k u) k v = T.setF f t k v
  | 0, _, _, _, _, h => absurd h (Nat.not_lt_zero _)
  | f + 1, .e, 0, v, u, _ => rfl
  | f + 1, .n _ _ _, 0, v, u, _ => rfl
  | f + 1, .e, k + 1, v, u, h => by
    have h1 := T.setF_setF f (.e : T α) (k / 2) v u (by omega)
    simp only [T.setF]
    cases hk : Nat.beq (k % 2) 0 <;> simp only [T.setF, hk, h1]
  | f + 1, .n l x r, k + 1, v, u, h => by
    have h1 := T.setF_setF f l (k / 2) v u (by omega)
    have h2 := T.setF_setF f r (k / 2) v u (by omega)
    simp only [T.setF]
    cases hk : Nat.beq (k % 2) 0 <;> simp only [T.setF, hk, h1, h2]
theorem T.put_put {α : Type} (t : T α) (k : Nat) (v u : Option α) : (t.put k u).put k v = t.put k v := T.setF_setF _ _ _ _ _ (Nat.lt_succ_self _)
theorem T.setF_comm {α : Type} : ∀ (f : Nat) (t : T α) (k j : Nat) (v u : Option α), k < f → j < f → k ≠ j → T.setF f (T.setF f t k v) j u = T.setF f (T.setF f t j u) k v
  | 0, _, _, _, _, _, h, _, _ => absurd h (Nat.not_lt_zero _)
  | f + 1, t, 0, 0, v, u, _, _, h => absurd rfl h
  | f + 1, .e, 0, j + 1, v, u, _, _, _ => by
    simp only [T.setF]; cases Nat.beq (j % 2) 0 <;> simp only [T.setF]
  | f + 1, .n l x r, 0, j + 1, v, u, _, _, _ => by
    simp only [T.setF]; cases Nat.beq (j % 2) 0 <;> simp only [T.setF]
  | f + 1, .e, k + 1, 0, v, u, _, _, _ => by
    simp only [T.setF]; cases Nat.beq (k % 2) 0 <;> simp only [T.setF]
  | f + 1, .n l x r, k + 1, 0, v, u, _, _, _ => by
    simp only [T.setF]; cases Nat.beq (k % 2) 0 <;> simp only [T.setF]
  | f + 1, .e, k + 1, j + 1, v, u, h1, h2, h3 => by
    have hc := T.setF_comm f (.e : T α) (k / 2) (j / 2) v u (by omega) (by omega)
    simp only [T.setF]
    cases hk : Nat.beq (k % 2) 0 <;> cases hj : Nat.beq (j % 2) 0 <;> simp only [T.setF, hk, hj]
    · rw [hc (fun e => h3 (by have := mt (beq_zero (k % 2)).2 (by simp [hk]); have := mt (beq_zero (j % 2)).2 (by simp [hj]); omega))]
    · rw [hc (fun e => h3 (by have := (beq_zero (k % 2)).1 hk; have := (beq_zero (j % 2)).1 hj; omega))]
  | f + 1, .n l x r, k + 1, j + 1, v, u, h1, h2, h3 => by
    have hc := T.setF_comm f l (k / 2) (j / 2) v u (by omega) (by omega)
    have hd := T.setF_comm f r (k / 2) (j / 2) v u (by omega) (by omega)
    simp only [T.setF]
    cases hk : Nat.beq (k % 2) 0 <;> cases hj : Nat.beq (j % 2) 0 <;> simp only [T.setF, hk, hj]
    · rw [hd (fun e => h3 (by have := mt (beq_zero (k % 2)).2 (by simp [hk]); have := mt (beq_zero (j % 2)).2 (by simp [hj]); omega))]
    · rw [hc (fun e => h3 (by have := (beq_zero (k % 2)).1 hk; have := (beq_zero (j % 2)).1 hj; omega))]
theorem T.put_comm {α : Type} (t : T α) (k j : Nat) (v u : Option α) (h : k ≠ j) : (t.put k v).put j u = (t.put j u).put k v := by
  unfold T.put
  have e : ∀ (t : T α) (i : Nat) (x : Option α), i ≤ k + j → T.setF (i + 1) t i x = T.setF (k + j + 1) t i x := fun t i x hi => (T.setF_fuel (k + j + 1) t i x (by omega)).symm
  rw [e t k v (by omega), e t j u (by omega), e _ j u (by omega), e _ k v (by omega)]
  exact T.setF_comm _ _ _ _ _ _ (by omega) (by omega) h

theorem memT_put : ∀ (M : List (Option Blk)) (k l : Nat) (b : Option Blk), k ≤ l → l < k + M.length → (memT M k).put l b = memT (M.set (l - k) b) k
  | [], k, l, b, h1, h2 => by simp at h2; omega
  | x :: M, k, l, b, h1, h2 => by
    by_cases e : l = k
    · subst e; simp [memT, T.put_put]
    · rw [show l - k = (l - (k + 1)) + 1 by omega, List.set_cons_succ]
      simp only [memT]
      rw [T.put_comm _ _ _ _ _ (by omega), memT_put M (k + 1) l b (by omega) (by simp at h2; omega)]
theorem memT_app : ∀ (M : List (Option Blk)) (k : Nat) (b : Option Blk), (memT M k).put (k + M.length) b = memT (M ++ [b]) k
  | [], k, b => by simp [memT]
  | x :: M, k, b => by
    simp only [memT, List.cons_append, List.length_cons]
    rw [T.put_comm _ _ _ _ _ (by omega), show k + (M.length + 1) = k + 1 + M.length by omega, memT_app M (k + 1) b]
theorem upd_mem {ro l : Nat} {M : List (Option Blk)} (b : Option Blk) (h : Nat.blt l M.length = true) : (mem ro M).upd l b = mem ro (M.set l b) := by
  have h : l < M.length := by simpa using h
  simp only [LH.upd, mem, List.length_set, LH.mk.injEq, true_and]
  exact memT_put M 0 l b (Nat.zero_le _) (by omega)
theorem new_mem (ro : Nat) (M : List (Option Blk)) (b : Blk) : (mem ro M).new b = mem ro (M ++ [some b]) := by
  simp only [LH.new, mem, List.length_append, List.length_singleton, LH.mk.injEq, true_and]
  have := memT_app M 0 (some b)
  rwa [Nat.zero_add] at this
theorem upd_upd (h : LH) (l : Nat) (b b' : Option Blk) : (h.upd l b).upd l b' = h.upd l b' := by simp [LH.upd, T.put_put]

/-! ### Slots -/
def lk : List (Nat × V) → Nat → Option V
  | [], _ => none
  | (j, v) :: S, k => match Nat.beq k j with
    | true => some v
    | false => lk S k
theorem lk_slt : ∀ (S : List (Nat × V)) (k : Nat), (slt S).get k = lk S k
  | [], _ => rfl
  | (j, v) :: S, k => by
    simp only [slt, T.get_put, lk]
    cases h : Nat.beq k j with
    | true => rw [if_pos (Nat.eq_of_beq_eq_true h)]
    | false => rw [if_neg (fun e => by rw [e, Nat.beq_refl] at h; cases h)]; exact lk_slt S k
def evS (S : List (Nat × V)) : Operand → Option V
  | .tmp k => lk S k
  | .const v => ofValue v
  | .global _ => none
  | .func f => some (.fn f [])
theorem evO_slt (S : List (Nat × V)) : evO (slt S) = evS S := by
  funext x
  cases x <;> first | rfl | exact lk_slt S _
def setS (S : List (Nat × V)) (d : Option Tmp) (v : V) : List (Nat × V) := match d with | some d => (d, v) :: S | none => S
theorem setO_slt (S : List (Nat × V)) (d : Option Tmp) (v : V) : setO (slt S) d v = slt (setS S d v) := by cases d <;> rfl
def fitS (n : Nat) (ops : Array Oper) (o : Oper) (S : List (Nat × V)) : Bool := fits n o.dst && (match o.guard with
  | none => true
  | some (j, _) => match (ops[j]?).bind (·.dst) with
    | some d => (lk S d).isSome
    | none => true)
def wantS (ops : Array Oper) (o : Oper) (S : List (Nat × V)) : Bool := match o.guard with
  | none => true
  | some (j, want) => (match (ops[j]?).bind (·.dst) with
    | some d => match lk S d with
      | some (.b x) => some x
      | _ => none
    | none => none) == some want
theorem fitS_eq (n : Nat) (ops : Array Oper) (o : Oper) (S : List (Nat × V)) : fitK n ops o (slt S) = fitS n ops o S := by
  unfold fitK fitS knowV; simp only [lk_slt]; rfl
theorem wantS_eq (ops : Array Oper) (o : Oper) (S : List (Nat × V)) : wantV ops o (slt S) = wantS ops o S := by
  unfold wantV wantS ylV; simp only [lk_slt]; rfl
def keepS (ks : List Nat) (S : List (Nat × V)) : Option (List (Nat × V)) := match ks with
  | [] => some []
  | k :: ks => match lk S k, keepS ks S with
    | some v, some L => some ((k, v) :: L)
    | _, _ => none
theorem keepS_get : ∀ {ks : List Nat} {S L : List (Nat × V)}, keepS ks S = some L → ∀ k v, lk L k = some v → lk S k = some v
  | [], S, L, h, k, v, hk => by injection h with h; subst h; cases hk
  | j :: ks, S, L, h, k, v, hk => by
    simp only [keepS] at h
    split at h
    · next u L' hu hL =>
      injection h with h; subst h
      simp only [lk] at hk
      split at hk
      · next e => rw [Nat.eq_of_beq_eq_true e, hu, ← hk]
      · exact keepS_get hL k v hk
    · cases h

/-! ### Places in the code -/
def k1 : Code → Code
  | .seq a _ => a
  | .cond _ a _ => a
  | .block _ c => c
  | .loop c => c
  | c => c
def k2 : Code → Code
  | .seq _ b => b
  | .cond _ _ b => b
  | c => c
def kops : Code → Array Oper
  | .region _ ops _ => ops
  | _ => #[]
def kid : Code → Nat
  | .block id _ => id
  | .exit id => id
  | _ => 0
def kcd : Code → Operand
  | .cond c _ _ => c
  | _ => .const (.bool false)
def kind : Code → Nat
  | .seq _ _ => 1
  | .cond _ _ _ => 2
  | .block _ _ => 3
  | .loop _ => 4
  | .region _ _ false => 5
  | .region _ _ true => 6
  | .exit _ => 7
  | .ret => 8
  | .skip => 9
  | _ => 0
def kop (c : Code) (i : Nat) : Oper := (kops c).toList.getD i default
/-- A region from an operation on. -/
def rest (c : Code) (i : Nat) : Fm := .r (kops c) ((kops c).toList.drop i)

section
variable {P : Program} {tb : Tb P} {n N : Nat} {k : List Fm} {c : Code} {S : List (Nat × V)} {t : T V} {h h1 : LH} {Q : Ex → T V → LH → Prop}

theorem WS.pseq (hk : kind c = 1) (w : WS P n N (.c (k1 c) :: .c (k2 c) :: k) t h Q) : WS P n N (.c c :: k) t h Q := by
  unfold kind at hk; split at hk <;> first | (cases hk; done) | exact WS.seq w
theorem WS.pblock (hk : kind c = 3) (w : WS P n N (.c (k1 c) :: .b (kid c) :: k) t h Q) : WS P n N (.c c :: k) t h Q := by
  unfold kind at hk; split at hk <;> first | (cases hk; done) | exact WS.block w
theorem WS.pskip (hk : kind c = 9) (w : WS P n N k t h Q) : WS P n N (.c c :: k) t h Q := by
  unfold kind at hk; split at hk <;> first | (cases hk; done) | exact WS.skip w
theorem WS.pret (hk : kind c = 8) (w : Q .r t h) : WS P n N (.c c :: k) t h Q := by
  unfold kind at hk; split at hk <;> first | (cases hk; done) | exact WS.ret (WE.ret w)
theorem WS.pexit {k' : List Fm} (hk : kind c = 7) (hu : unw (kid c) k = some k') (w : WS P n N k' t h Q) : WS P n N (.c c :: k) t h Q := by
  unfold kind at hk; split at hk <;> first | (cases hk; done) | exact WS.exit (WE.caught hu w)
theorem WS.pout (hk : kind c = 7) (hu : unw (kid c) k = none) (w : Q (.x (kid c)) t h) : WS P n N (.c c :: k) t h Q := by
  unfold kind at hk; split at hk <;> first | (cases hk; done) | exact WS.exit (WE.out hu w)
theorem WS.pcondT (hk : kind c = 2) (hc : evS S (kcd c) = some (.b true)) (w : WS P n N (.c (k1 c) :: k) (slt S) h Q) : WS P n N (.c c :: k) (slt S) h Q := by
  unfold kind at hk; split at hk <;> first | (cases hk; done) | exact WS.condT (by rw [evO_slt]; exact hc) w
theorem WS.pcondF (hk : kind c = 2) (hc : evS S (kcd c) = some (.b false)) (w : WS P n N (.c (k2 c) :: k) (slt S) h Q) : WS P n N (.c c :: k) (slt S) h Q := by
  unfold kind at hk; split at hk <;> first | (cases hk; done) | exact WS.condF (by rw [evO_slt]; exact hc) w
theorem WS.pregion (hk : kind c = 5) (w : WS P n N (rest c 0 :: k) t h Q) : WS P n N (.c c :: k) t h Q := by
  unfold kind at hk; split at hk <;> first | (cases hk; done) | exact WS.region w
theorem WS.ploop {m : Nat} {QL : Ex → T V → LH → Prop} (hk : kind c = 4) (hl : WL P n h.next (k1 c) m t h QL) (w : ∀ x t' h', QL x t' h' → WE P n N k x t' h' Q) : WS P n N (.c c :: k) t h Q := by
  unfold kind at hk; split at hk <;> first | (cases hk; done) | exact WS.loop hl w
theorem drop_kop {i : Nat} (hi : Nat.blt i (kops c).toList.length = true) : (kops c).toList.drop i = kop c i :: (kops c).toList.drop (i + 1) := by
  have hi : i < (kops c).toList.length := by simpa using hi
  rw [List.drop_eq_getElem_cons hi]
  simp [kop, List.getD_eq_getElem?_getD, List.getElem?_eq_getElem hi]
theorem WS.pop {i : Nat} {v : V} {d : Option Tmp} (hi : Nat.blt i (kops c).toList.length = true) (hd : (kop c i).dst = d) (hf : fitS n (kops c) (kop c i) S = true) (hw : wantS (kops c) (kop c i) S = true)
    (hs : step tb noCalls (evS S) h (kop c i).op = some (v, h1)) (w : WS P n N (rest c (i + 1) :: k) (slt (setS S d v)) h1 Q) : WS P n N (rest c i :: k) (slt S) h Q := by
  unfold rest; rw [drop_kop hi]
  subst hd
  exact WS.op (tb := tb) (by rw [fitS_eq]; exact hf) (by rw [wantS_eq]; exact hw) (by rw [evO_slt]; exact hs) (by rw [setO_slt]; exact w)
theorem WS.popno {i : Nat} {d : Option Tmp} (hi : Nat.blt i (kops c).toList.length = true) (hd : (kop c i).dst = d) (hf : fitS n (kops c) (kop c i) S = true) (hw : wantS (kops c) (kop c i) S = false)
    (w : WS P n N (rest c (i + 1) :: k) (slt (setS S d (.tup []))) h Q) : WS P n N (rest c i :: k) (slt S) h Q := by
  unfold rest; rw [drop_kop hi]
  subst hd
  exact WS.opno (by rw [fitS_eq]; exact hf) (by rw [wantS_eq]; exact hw) (by rw [setO_slt]; exact w)
theorem WS.pcall {i : Nat} {d : Option Tmp} {g : FuncId} {vs : List V} {Qf : V → LH → Prop} (hi : Nat.blt i (kops c).toList.length = true) (hd : (kop c i).dst = d) (hf : fitS n (kops c) (kop c i) S = true) (hw : wantS (kops c) (kop c i) S = true)
    (hc : evCall tb (evS S) (kop c i).op = some (g, vs)) (hg : FQ P g vs h Qf) (w : ∀ v h1, Qf v h1 → WS P n N (rest c (i + 1) :: k) (slt (setS S d v)) h1 Q) : WS P n N (rest c i :: k) (slt S) h Q := by
  unfold rest; rw [drop_kop hi]
  subst hd
  exact WS.call (tb := tb) (by rw [fitS_eq]; exact hf) (by rw [wantS_eq]; exact hw) (by rw [evO_slt]; exact hc) hg (fun v h1 hq => by rw [setO_slt]; exact w v h1 hq)
theorem WS.pend {i : Nat} (hi : Nat.ble (kops c).toList.length i = true) (w : WS P n N k t h Q) : WS P n N (rest c i :: k) t h Q := by
  unfold rest; rw [List.drop_eq_nil_of_le (Nat.le_of_ble_eq_true hi)]
  exact WS.rend w
/-- Only these slots are looked at from here on. -/
theorem WS.keep {L : List (Nat × V)} (ks : List Nat) (hk : keepS ks S = some L) (w : WS P n N k (slt L) h Q) : WS P n N k (slt S) h Q := by
  intro B W r a wl hN F R Qw hQ
  refine w B W r a wl hN ⟨F.size, F.defers, fun j v hj => F.get j v ?_, fun j v hj => F.ok j v ?_⟩ R Qw hQ <;>
    (rw [lk_slt] at hj ⊢; exact keepS_get hk j v hj)

/-! ### Operations whose places are not numbers -/
variable {cf : CF} {e : Operand → Option V}
theorem step_index {op : Op} {T E : TypeId} {x ix : Operand} {l o len cap z j : Nat} {q : Bool} {kd : IntKind} {i : Int} (hop : op = .indexAddr T x ix) (hx : e x = some (.sl (some (l, o)) len cap q)) (hi : e ix = some (.i kd i))
    (hu : tb.und T = some (.slice E)) (hz : tb.sz E = some z) (hj : i = (j : Int)) (hl : j < len) : step tb cf e h op = some (.p (some (l, o + j * z)), h) := by
  subst hop; subst hj
  have : evP tb e (.indexAddr T x ix) = some (.p (some (l, o + j * z))) := by
    simp only [evP, hx, hi, iaV, hu, hz]
    rw [if_pos (by omega), if_pos (by omega)]; simp
  simp only [step, this]
theorem step_load {op : Op} {T : TypeId} {x : Operand} {l o : Nat} {b : Blk} {v : V} (hop : op = .load T x) (hx : e x = some (.p (some (l, o)))) (ha : isAgg tb T = some false) (hb : h.get l = some b) (hv : b.cells[o]? = some v) :
    step tb cf e h op = some (v, h) := by
  subst hop
  have h1 : evP tb e (.load T x) = none := rfl
  have h2 : evR tb e h (.load T x) = some v := by simp only [evR, hx, ldV, ha, hb, nthF_eq, hv]
  simp only [step, h1, h2]
theorem step_loads {op : Op} {T : TypeId} {x : Operand} {l o z : Nat} {b : Blk} {vs : List V} (hop : op = .load T x) (hx : e x = some (.p (some (l, o)))) (ha : isAgg tb T = some true) (hz : tb.sz T = some z) (hb : h.get l = some b)
    (hv : (b.cells.drop o).take z = vs) (hl : vs.length = z) : step tb cf e h op = some (.agg vs, h) := by
  subst hop
  have h1 : evP tb e (.load T x) = none := rfl
  have h2 : evR tb e h (.load T x) = some (.agg vs) := by simp only [evR, hx, ldV, ha, hz, cellsAt, hb, hv, hl, if_true, Option.map_some]
  simp only [step, h1, h2]
theorem stL_put : ∀ (vs : List V) (h : LH) (l o : Nat) (c : List V) (E : TypeId), h.get l = some ⟨c, E, true⟩ → h.ro ≤ l → vs.all isCell = true → o + vs.length ≤ c.length →
    vs ≠ [] → stL h l o vs = some (h.upd l (some ⟨setL c o vs, E, true⟩))
  | [], _, _, _, _, _, _, _, _, _, hn => absurd rfl hn
  | v :: vs, h, l, o, c, E, hb, hr, hc, hl, _ => by
    simp only [List.all_cons, Bool.and_eq_true] at hc
    simp only [List.length_cons] at hl
    have hs : (nthF o c o).isSome = true := by rw [nthF_eq]; simp; omega
    simp only [stL, hb, hc.1, hs, setNF_eq, Bool.and_self, Bool.true_and]
    rw [if_pos (by simpa using hr)]
    cases vs with
    | nil => simp [stL, setL]
    | cons u us =>
      rw [stL_put (u :: us) (h.upd l (some ⟨c.set o v, E, true⟩)) l (o + 1) (c.set o v) E (by rw [LH.get_upd, if_pos rfl]) hr hc.2 (by simp at hl ⊢; omega) (by simp), upd_upd]
      rfl
theorem step_store {op : Op} {T E : TypeId} {x y : Operand} {l o : Nat} {c : List V} {v : V} (hop : op = .store T x y) (hx : e x = some (.p (some (l, o)))) (hy : e y = some v) (hz : tb.sz T = some (vcells v).length)
    (hb : h.get l = some ⟨c, E, true⟩) (hr : h.ro ≤ l) (hc : (vcells v).all isCell = true) (hn : (vcells v) ≠ []) (hl : o + (vcells v).length ≤ c.length) :
    step tb cf e h op = some (.tup [], h.upd l (some ⟨setL c o (vcells v), E, true⟩)) := by
  subst hop
  have h1 : evP tb e (.store T x y) = none := rfl
  have h2 : evR tb e h (.store T x y) = none := rfl
  have h3 : evH tb e h (.store T x y) = some (.tup [], h.upd l (some ⟨setL c o (vcells v), E, true⟩)) := by
    simp only [evH, hx, hy, stV, hz, if_true, stL_put _ h l o c E hb hr hc hl hn]
  simp only [step, h1, h2, h3]
end

def kb (fn : Func) : Code := fn.body.getD .skip
def argS : List V → Nat → List (Nat × V) → List (Nat × V)
  | [], _, S => S
  | v :: l, k, S => argS l (k + 1) ((k, v) :: S)
theorem argT_slt : ∀ (l : List V) (k : Nat) (S : List (Nat × V)), argT l k (slt S) = slt (argS l k S)
  | [], _, _ => rfl
  | v :: l, k, S => by
    show argT l (k + 1) ((slt S).put k (some v)) = slt (argS l (k + 1) ((k, v) :: S))
    rw [← argT_slt l (k + 1) ((k, v) :: S)]; rfl
def frameN (fn : Func) (m : Nat) : Nat := m + (fn.ntmps - m)

section
variable {P : Program} {tb : Tb P} {n N : Nat} {k : List Fm} {c : Code} {S : List (Nat × V)} {t : T V} {h h1 : LH} {Q : Ex → T V → LH → Prop}

theorem FQ.pbody {g : FuncId} {fn : Func} {vs : List V} {Qf : V → LH → Prop} (hf : tb.fn g = some fn) (hb : fn.body.isSome = true)
    (hc : WS P (frameN fn vs.length) h.next [.c (kb fn)] (slt (argS vs 0 [])) h (fun x t' h' => (x = .n ∨ x = .r) ∧ ∃ v, resV tb t' h' fn.results.toList = some v ∧ Qf v h')) : FQ P g vs h Qf := by
  cases hbb : fn.body with
  | none => rw [hbb] at hb; cases hb
  | some c =>
    refine FQ.body hf hbb ?_
    have : kb fn = c := by unfold kb; rw [hbb]; rfl
    rw [this, ← argT_slt] at hc
    exact hc

variable {i d : Nat} {v : V}
theorem WS.po (hi : Nat.blt i (kops c).toList.length = true) (hd : (kop c i).dst = some d) (hf : fitS n (kops c) (kop c i) S = true) (hw : wantS (kops c) (kop c i) S = true)
    (hs : step tb noCalls (evS S) h (kop c i).op = some (v, h1)) (w : WS P n N (rest c (i + 1) :: k) (slt ((d, v) :: S)) h1 Q) : WS P n N (rest c i :: k) (slt S) h Q := WS.pop hi hd hf hw hs w
theorem WS.po0 (hi : Nat.blt i (kops c).toList.length = true) (hd : (kop c i).dst = none) (hf : fitS n (kops c) (kop c i) S = true) (hw : wantS (kops c) (kop c i) S = true)
    (hs : step tb noCalls (evS S) h (kop c i).op = some (v, h1)) (w : WS P n N (rest c (i + 1) :: k) (slt S) h1 Q) : WS P n N (rest c i :: k) (slt S) h Q := WS.pop hi hd hf hw hs w
theorem WS.pono (hi : Nat.blt i (kops c).toList.length = true) (hd : (kop c i).dst = some d) (hf : fitS n (kops c) (kop c i) S = true) (hw : wantS (kops c) (kop c i) S = false)
    (w : WS P n N (rest c (i + 1) :: k) (slt ((d, .tup []) :: S)) h Q) : WS P n N (rest c i :: k) (slt S) h Q := WS.popno hi hd hf hw w
theorem WS.pono0 (hi : Nat.blt i (kops c).toList.length = true) (hd : (kop c i).dst = none) (hf : fitS n (kops c) (kop c i) S = true) (hw : wantS (kops c) (kop c i) S = false)
    (w : WS P n N (rest c (i + 1) :: k) (slt S) h Q) : WS P n N (rest c i :: k) (slt S) h Q := WS.popno hi hd hf hw w
/-- A bit that is known. -/
theorem WS.poB {x : Bool} (q : Bool) (hi : Nat.blt i (kops c).toList.length = true) (hd : (kop c i).dst = some d) (hf : fitS n (kops c) (kop c i) S = true) (hw : wantS (kops c) (kop c i) S = true)
    (hs : step tb noCalls (evS S) h (kop c i).op = some (.b x, h1)) (hx : x = q) (w : WS P n N (rest c (i + 1) :: k) (slt ((d, .b q) :: S)) h1 Q) : WS P n N (rest c i :: k) (slt S) h Q := by
  subst hx; exact WS.pop hi hd hf hw hs w
theorem wr_id {kd : IntKind} {z : Int} (h0 : lo kd ≤ z) (h1 : z ≤ hi kd) : wr kd z = z := by unfold wr; rw [if_pos h0, if_pos h1]
/-- A number that is in range. -/
theorem WS.poW {kd : IntKind} {z : Int} (hi : Nat.blt i (kops c).toList.length = true) (hd : (kop c i).dst = some d) (hf : fitS n (kops c) (kop c i) S = true) (hw : wantS (kops c) (kop c i) S = true)
    (hs : step tb noCalls (evS S) h (kop c i).op = some (.i kd (wr kd z), h1)) (h0 : lo kd ≤ z) (h2 : z ≤ Am.hi kd) (w : WS P n N (rest c (i + 1) :: k) (slt ((d, .i kd z) :: S)) h1 Q) : WS P n N (rest c i :: k) (slt S) h Q := by
  rw [wr_id h0 h2] at hs; exact WS.pop hi hd hf hw hs w
/-- A place, its number worked out. -/
theorem WS.poP {l o o' : Nat} (hi : Nat.blt i (kops c).toList.length = true) (hd : (kop c i).dst = some d) (hf : fitS n (kops c) (kop c i) S = true) (hw : wantS (kops c) (kop c i) S = true)
    (hs : step tb noCalls (evS S) h (kop c i).op = some (.p (some (l, o)), h1)) (ho : o = o') (w : WS P n N (rest c (i + 1) :: k) (slt ((d, .p (some (l, o'))) :: S)) h1 Q) : WS P n N (rest c i :: k) (slt S) h Q := by
  subst ho; exact WS.pop hi hd hf hw hs w
theorem WS.pocall {g : FuncId} {vs : List V} {Qf : V → LH → Prop} (hi : Nat.blt i (kops c).toList.length = true) (hd : (kop c i).dst = some d) (hf : fitS n (kops c) (kop c i) S = true) (hw : wantS (kops c) (kop c i) S = true)
    (hc : evCall tb (evS S) (kop c i).op = some (g, vs)) (hg : FQ P g vs h Qf) (w : ∀ v h1, Qf v h1 → WS P n N (rest c (i + 1) :: k) (slt ((d, v) :: S)) h1 Q) : WS P n N (rest c i :: k) (slt S) h Q := WS.pcall hi hd hf hw hc hg w
/-- A call, walked through where it stands. -/
theorem WS.poin {g : FuncId} {vs : List V} {fn : Func} (hi : Nat.blt i (kops c).toList.length = true) (hd : (kop c i).dst = some d) (hf : fitS n (kops c) (kop c i) S = true) (hw : wantS (kops c) (kop c i) S = true)
    (hc : evCall tb (evS S) (kop c i).op = some (g, vs)) (hg : tb.fn g = some fn) (hb : fn.body.isSome = true)
    (w : WS P (frameN fn vs.length) h.next [.c (kb fn)] (slt (argS vs 0 [])) h (fun x t' h' => (x = .n ∨ x = .r) ∧ ∃ v, resV tb t' h' fn.results.toList = some v ∧ WS P n N (rest c (i + 1) :: k) (slt ((d, v) :: S)) h' Q)) :
    WS P n N (rest c i :: k) (slt S) h Q := WS.pcall hi hd hf hw hc (FQ.pbody hg hb w) (fun _ _ hq => hq)
end

def alwN (ms : List Nat) (i q : Nat) : List Nat → Nat → Bool
  | [], _ => true
  | e :: l, p => (if p < q then !bit ms e i else !bit ms i e) && alwN ms i q l (p + 1)
theorem alw_eq (ms : List Nat) (i q : Nat) : ∀ (E : List (Nat × LH)) (p : Nat), alw ms i q E p = alwN ms i q (E.map (·.1)) p
  | [], _ => rfl
  | (e, _) :: l, p => by simp only [alw, alwN, List.map_cons, alw_eq ms i q l (p + 1)]
def chnN (ms : List Nat) : List Nat → Bool
  | a :: b :: l => bit ms b a && chnN ms (b :: l)
  | _ => true
theorem chn_eq (ms : List Nat) : ∀ (E : List (Nat × LH)), chn ms E = chnN ms (E.map (·.1))
  | [] => rfl
  | [_] => rfl
  | (a, _) :: (b, h) :: l => by
    simp only [chn, List.map_cons, chnN]
    have := chn_eq ms ((b, h) :: l)
    simp only [List.map_cons] at this
    rw [this]
def okR (ms : List Nat) (E : List Nat) (i p : Nat) : Bool := (List.range (E.length + 1)).all fun q => Nat.beq q p || !alwN ms i q E 0
/-- May it be read where it is, or behind what only makes? -/
def okF (ms : List Nat) (E : List Nat) (F : List Bool) (i p : Nat) : Bool := (List.range (E.length + 1)).all fun q => Nat.beq q p || !alwN ms i q E 0 || (Nat.blt p q && ((F.drop p).take (q - p)).all (fun x => x))
def stat1 (ms : List Nat) (E : List Nat) (F : List Bool) : List Nat → Nat → Nat → Bool
  | [], _, _ => true
  | 2 :: K, i, p => stat1 ms E F K (i + 1) (p + 1)
  | 3 :: K, i, p => stat1 ms E F K (i + 1) (p + 1)
  | 1 :: K, i, p => okR ms E i p && stat1 ms E F K (i + 1) p
  | 4 :: K, i, p => okF ms E F i p && stat1 ms E F K (i + 1) p
  | _ :: K, i, p => stat1 ms E F K (i + 1) p
def eIdx : List Nat → Nat → List Nat
  | [], _ => []
  | 2 :: K, i => i :: eIdx K (i + 1)
  | 3 :: K, i => i :: eIdx K (i + 1)
  | _ :: K, i => eIdx K (i + 1)
/-- Which of the changes only make. -/
def fl : List Nat → List Bool
  | [] => []
  | 2 :: K => false :: fl K
  | 3 :: K => true :: fl K
  | _ :: K => fl K
theorem fl_len : ∀ (K : List Nat) (j : Nat), (fl K).length = (eIdx K j).length
  | [], _ => rfl
  | 0 :: K, j => by simp only [fl, eIdx, fl_len K (j + 1)]
  | 1 :: K, j => by simp only [fl, eIdx, fl_len K (j + 1)]
  | 2 :: K, j => by simp only [fl, eIdx, List.length_cons, fl_len K (j + 1)]
  | 3 :: K, j => by simp only [fl, eIdx, List.length_cons, fl_len K (j + 1)]
  | (n + 4) :: K, j => by simp only [fl, eIdx, fl_len K (j + 1)]
mutual
theorem beqV_self : ∀ v : V, beqV v v = true
  | .b x => by simp [beqV]
  | .i k n => by simp [beqV]
  | .s x => by simp [beqV]
  | .p x => by simp [beqV]
  | .sl x n c o => by simp [beqV]
  | .fn f cs => by simp [beqV, beqL_self cs]
  | .nf => rfl
  | .ifc t v => by simp [beqV, beqV_self v]
  | .nif => rfl
  | .agg l => by simp [beqV, beqL_self l]
  | .tup l => by simp [beqV, beqL_self l]
theorem beqL_self : ∀ l : List V, beqL l l = true
  | [] => rfl
  | x :: l => by simp [beqL, beqV_self x, beqL_self l]
end
def drawOK (ops : Array Oper) (K : List Nat) : Bool := chnN (msks ops.toList []) (eIdx K 0) && stat1 (msks ops.toList []) (eIdx K 0) (fl K) K 0 0
/-- A memory with more in it. -/
structure Grow (a b : LH) : Prop where
  next : a.next ≤ b.next
  get : ∀ l x, l < a.next → a.get l = some x → b.get l = some x
theorem Grow.refl (a : LH) : Grow a a := ⟨Nat.le_refl _, fun _ _ _ h => h⟩
theorem Grow.trans {a b c : LH} (f : Grow a b) (g : Grow b c) : Grow a c := ⟨Nat.le_trans f.next g.next, fun l x hl h => g.get l x (Nat.lt_of_lt_of_le hl f.next) (f.get l x hl h)⟩
def mems : Dat → List LH
  | [] => []
  | (_, some h) :: D => h :: mems D
  | (_, none) :: D => mems D
theorem effs_mems : ∀ (D : Dat) (j : Nat), (effs D j).map (·.2) = mems D
  | [], _ => rfl
  | (_, some h) :: D, j => by simp only [effs, List.map_cons, mems, effs_mems D (j + 1)]
  | (_, none) :: D, j => by simp only [effs, mems, effs_mems D (j + 1)]
def extOK : List Bool → List LH → Prop
  | f :: F, a :: b :: l => (f = true → Grow a b) ∧ extOK F (b :: l)
  | _, _ => True
theorem extOK_get : ∀ {F : List Bool} {hs : List LH}, extOK F hs → ∀ (j : Nat) (a b : LH), F[j]? = some true → hs[j]? = some a → hs[j + 1]? = some b → Grow a b
  | [], _, _, j, _, _, h, _, _ => by simp at h
  | f :: F, [], _, j, _, _, _, h, _ => by simp at h
  | f :: F, [a], _, 0, _, _, _, _, h => by simp at h
  | f :: F, [a], _, j + 1, _, _, _, h, _ => by simp at h
  | f :: F, a :: b :: l, h, 0, a', b', hf, ha, hb => by
    simp only [List.getElem?_cons_zero, Option.some.injEq, List.getElem?_cons_succ] at hf ha hb
    subst hf; subst ha; subst hb
    exact h.1 rfl
  | f :: F, a :: b :: l, h, j + 1, a', b', hf, ha, hb => extOK_get (F := F) (hs := b :: l) h.2 j a' b' (by simpa using hf) (by simpa using ha) (by simpa using hb)
theorem ext_chain {F : List Bool} {hs : List LH} (hx : ∀ (j : Nat) (a b : LH), F[j]? = some true → hs[j]? = some a → hs[j + 1]? = some b → Grow a b) (p : Nat) : ∀ (d : Nat) (a b : LH), ((F.drop p).take d).all (fun x => x) = true → d ≤ (F.drop p).length → hs[p]? = some a → hs[p + d]? = some b → Grow a b
  | 0, a, b, _, _, ha, hb => by rw [Nat.add_zero, ha] at hb; obtain rfl := Option.some.inj hb; exact Grow.refl _
  | d + 1, a, b, hf, hd, ha, hb => by
    have hlt : p + d + 1 < hs.length := (List.getElem?_eq_some_iff.1 hb).1
    have hc : hs[p + d]? = some hs[p + d] := List.getElem?_eq_getElem (by omega)
    simp only [List.all_eq_true] at hf
    refine (ext_chain hx p d a _ (List.all_eq_true.2 fun x hx => hf x ?_) (by omega) ha hc).trans (hx (p + d) _ b ?_ hc hb)
    · obtain ⟨j, hj⟩ := List.mem_iff_getElem?.1 hx
      rw [List.getElem?_take] at hj
      split at hj
      · exact List.mem_of_getElem? (i := j) (by rw [List.getElem?_take, if_pos (by omega)]; exact hj)
      · cases hj
    · have h1 : (F.drop p)[d]? = some (F.drop p)[d] := List.getElem?_eq_getElem (by omega)
      have h2 := hf (F.drop p)[d] (List.mem_of_getElem? (i := d) (by rw [List.getElem?_take, if_pos (by omega)]; exact h1))
      rw [List.getElem?_drop] at h1
      rw [h1, h2]

section
variable {P : Program} {tb : Tb P} {cf : CF}

theorem chkQ_of {E : List (Nat × LH)} {ms : List Nat} {e : Operand → Option V} {op : Op} {v : V} {i skip : Nat} : ∀ (hs : List LH) (q0 : Nat), (∀ j, j < hs.length → (q0 + j == skip || !alw ms i (q0 + j) E 0) = true) → chkQ tb cf E ms e op v i skip hs q0 = true
  | [], _, _ => rfl
  | h :: hs, q0, hq => by
    have h0 := hq 0 (by simp)
    simp only [Nat.add_zero] at h0
    simp only [chkQ, h0, Bool.true_or, Bool.true_and]
    exact chkQ_of hs (q0 + 1) fun j hj => by have := hq (j + 1) (by simpa using hj); rwa [show q0 + 1 + j = q0 + (j + 1) by omega]

theorem chkQ_mem {E : List (Nat × LH)} {ms : List Nat} {e : Operand → Option V} {op : Op} {v : V} {i skip : Nat} : ∀ (hs : List LH) (q0 : Nat), (∀ (j : Nat) (x : LH), hs[j]? = some x → (q0 + j == skip || !alw ms i (q0 + j) E 0 || eqO (evQ tb cf e x op) v) = true) → chkQ tb cf E ms e op v i skip hs q0 = true
  | [], _, _ => rfl
  | h :: hs, q0, hq => by
    have h0 := hq 0 h rfl
    simp only [Nat.add_zero] at h0
    simp only [chkQ, h0, Bool.true_and]
    exact chkQ_mem hs (q0 + 1) fun j x hj => by have := hq (j + 1) x (by simpa using hj); rwa [show q0 + 1 + j = q0 + (j + 1) by omega]
def evRS (L : List Tmp) (S : List (Nat × V)) : Operand → Option V
  | .tmp k => if L.contains k then lk S k else none
  | x => evS S x
theorem eR_slt (L : List Tmp) (S : List (Nat × V)) : eR L (slt S) = evRS L S := by
  funext x
  cases x <;> first | rfl | (simp only [eR, evRS, lk_slt])

/-- What is left of a drawn region, in the order of the text. -/
def WD (tb : Tb P) (cf : CF) (n N : Nat) (c : Code) (i : Nat) (S : List (Nat × V)) (h : LH) (k : List Fm) (K : List Nat) (Q : Ex → T V → LH → Prop) : Prop :=
  ∃ D t' h', lexRun tb cf n (kops c) ((kops c).toList.drop i) (slt S) h = some (D, t', h') ∧ (∀ j, (effs D j).map (·.1) = eIdx K j) ∧
    (∀ (E : List (Nat × LH)) (hs : List LH) (ms : List Nat) (p : Nat) (F : List Bool), hs.length = E.length + 1 → stat1 ms (E.map (·.1)) F K i p = true → hs.drop p = h :: mems D → (∀ (j : Nat) (a b : LH), F[j]? = some true → hs[j]? = some a → hs[j + 1]? = some b → Grow a b) → F.length = E.length → chk tb cf (kops c) E hs ms ((kops c).toList.drop i) D i p (slt S) = true) ∧
    extOK (fl K) (h :: mems D) ∧ WS P n N k t' h' Q

variable {n N : Nat} {k : List Fm} {c : Code} {S : List (Nat × V)} {h h1 : LH} {Q : Ex → T V → LH → Prop} {K : List Nat} {i d : Nat} {v : V}

theorem WD.fin (hi : Nat.ble (kops c).toList.length i = true) (w : WS P n N k (slt S) h Q) : WD tb cf n N c i S h k [] Q := by
  refine ⟨[], slt S, h, ?_, fun _ => rfl, fun E hs ms p F _ _ _ _ _ => ?_, trivial, w⟩
  · rw [List.drop_eq_nil_of_le (Nat.le_of_ble_eq_true hi)]; rfl
  · rw [List.drop_eq_nil_of_le (Nat.le_of_ble_eq_true hi)]; rfl

/-- One that looks at slots alone. -/
theorem WD.p' {dd : Option Tmp} (hi : Nat.blt i (kops c).toList.length = true) (hd : (kop c i).dst = dd) (hf : fitS n (kops c) (kop c i) S = true) (hw : wantS (kops c) (kop c i) S = true)
    (hs : evP tb (evRS ((kop c i).looksAt (kops c)) S) (kop c i).op = some v) (w : WD tb cf n N c (i + 1) (setS S dd v) h k K Q) : WD tb cf n N c i S h k (0 :: K) Q := by
  obtain ⟨D, t', h', g1, g2, g3, g5, g4⟩ := w
  subst hd
  refine ⟨(v, none) :: D, t', h', ?_, fun j => g2 (j + 1), fun E hs' ms p F hl hst hdr hx hfl => ?_, g5, g4⟩
  · rw [drop_kop hi]
    have : evQ tb cf (evRS ((kop c i).looksAt (kops c)) S) h (kop c i).op = some v := by unfold evQ; rw [hs]
    simp only [lexRun, fitS_eq, hf, if_true, wantS_eq, hw, eR_slt, this, setO_slt, g1]
  · rw [drop_kop hi]
    simp only [chk, wantS_eq, hw, eR_slt, hs, Bool.true_and, setO_slt]
    exact g3 E hs' ms p F hl hst hdr hx hfl
/-- One that reads. -/
theorem WD.r' {dd : Option Tmp} (hi : Nat.blt i (kops c).toList.length = true) (hd : (kop c i).dst = dd) (hf : fitS n (kops c) (kop c i) S = true) (hw : wantS (kops c) (kop c i) S = true)
    (hs : evQ tb cf (evRS ((kop c i).looksAt (kops c)) S) h (kop c i).op = some v) (w : WD tb cf n N c (i + 1) (setS S dd v) h k K Q) : WD tb cf n N c i S h k (1 :: K) Q := by
  obtain ⟨D, t', h', g1, g2, g3, g5, g4⟩ := w
  subst hd
  refine ⟨(v, none) :: D, t', h', ?_, fun j => g2 (j + 1), fun E hs' ms p F hl hst hdr hx hfl => ?_, g5, g4⟩
  · rw [drop_kop hi]
    simp only [lexRun, fitS_eq, hf, if_true, wantS_eq, hw, eR_slt, hs, setO_slt, g1]
  · rw [drop_kop hi]
    simp only [stat1, Bool.and_eq_true] at hst
    simp only [chk, wantS_eq, hw, eR_slt, setO_slt, Bool.and_eq_true]
    refine ⟨?_, g3 E hs' ms p F hl hst.2 hdr hx hfl⟩
    split
    · rfl
    · refine chkQ_of hs' 0 fun j hj => ?_
      have := List.all_eq_true.1 hst.1 j (List.mem_range.2 (by rw [List.length_map]; omega))
      rw [Nat.zero_add, alw_eq]
      simpa using this
/-- One that makes or writes memory. -/
theorem WD.e' {dd : Option Tmp} (hi : Nat.blt i (kops c).toList.length = true) (hd : (kop c i).dst = dd) (hf : fitS n (kops c) (kop c i) S = true) (hw : wantS (kops c) (kop c i) S = true)
    (hq : evQ tb cf (evRS ((kop c i).looksAt (kops c)) S) h (kop c i).op = none) (hs : evE tb cf (evRS ((kop c i).looksAt (kops c)) S) h (kop c i).op = some (v, h1))
    (w : WD tb cf n N c (i + 1) (setS S dd v) h1 k K Q) : WD tb cf n N c i S h k (2 :: K) Q := by
  obtain ⟨D, t', h', g1, g2, g3, g5, g4⟩ := w
  subst hd
  refine ⟨(v, some h1) :: D, t', h', ?_, fun j => ?_, fun E hs' ms p F hl hst hdr hx hfl => ?_, ⟨fun h => (by cases h), g5⟩, g4⟩
  · rw [drop_kop hi]
    simp only [lexRun, fitS_eq, hf, if_true, wantS_eq, hw, eR_slt, hq, hs, setO_slt, g1]
  · simp only [effs, List.map_cons, eIdx, g2]
  · rw [drop_kop hi]
    simp only [chk, setO_slt]
    exact g3 E hs' ms (p + 1) F hl hst (by rw [← List.drop_drop, hdr]; rfl) hx hfl
/-- One that only makes. -/
theorem WD.e3' {dd : Option Tmp} (hi : Nat.blt i (kops c).toList.length = true) (hd : (kop c i).dst = dd) (hf : fitS n (kops c) (kop c i) S = true) (hw : wantS (kops c) (kop c i) S = true)
    (hq : evQ tb cf (evRS ((kop c i).looksAt (kops c)) S) h (kop c i).op = none) (hs : evE tb cf (evRS ((kop c i).looksAt (kops c)) S) h (kop c i).op = some (v, h1)) (hext : Grow h h1)
    (w : WD tb cf n N c (i + 1) (setS S dd v) h1 k K Q) : WD tb cf n N c i S h k (3 :: K) Q := by
  obtain ⟨D, t', h', g1, g2, g3, g5, g4⟩ := w
  subst hd
  refine ⟨(v, some h1) :: D, t', h', ?_, fun j => ?_, fun E hs' ms p F hl hst hdr hx hfl => ?_, ⟨fun _ => hext, g5⟩, g4⟩
  · rw [drop_kop hi]
    simp only [lexRun, fitS_eq, hf, if_true, wantS_eq, hw, eR_slt, hq, hs, setO_slt, g1]
  · simp only [effs, List.map_cons, eIdx, g2]
  · rw [drop_kop hi]
    simp only [chk, setO_slt]
    exact g3 E hs' ms (p + 1) F hl hst (by rw [← List.drop_drop, hdr]; rfl) hx hfl
theorem eqO_same {v : V} (h : beqV v v = true) : eqO (some v) v = true := h
/-- One that reads, here or behind what only makes. -/
theorem WD.f' {dd : Option Tmp} (hi : Nat.blt i (kops c).toList.length = true) (hd : (kop c i).dst = dd) (hf : fitS n (kops c) (kop c i) S = true) (hw : wantS (kops c) (kop c i) S = true)
    (hs : ∀ h2, Grow h h2 → evQ tb cf (evRS ((kop c i).looksAt (kops c)) S) h2 (kop c i).op = some v) (w : WD tb cf n N c (i + 1) (setS S dd v) h k K Q) : WD tb cf n N c i S h k (4 :: K) Q := by
  obtain ⟨D, t', h', g1, g2, g3, g5, g4⟩ := w
  subst hd
  refine ⟨(v, none) :: D, t', h', ?_, fun j => g2 (j + 1), fun E hs' ms p F hl hst hdr hx hfl => ?_, g5, g4⟩
  · rw [drop_kop hi]
    simp only [lexRun, fitS_eq, hf, if_true, wantS_eq, hw, eR_slt, hs h (Grow.refl h), setO_slt, g1]
  · rw [drop_kop hi]
    simp only [stat1, Bool.and_eq_true] at hst
    simp only [chk, wantS_eq, hw, eR_slt, setO_slt, Bool.and_eq_true]
    refine ⟨?_, g3 E hs' ms p F hl hst.2 hdr hx hfl⟩
    split
    · rfl
    · have hp : hs'[p]? = some h := by
        have := congrArg (fun l => l[0]?) hdr
        simpa using this
      refine chkQ_mem hs' 0 fun j x hj => ?_
      have hjl := (List.getElem?_eq_some_iff.1 hj).1
      have := List.all_eq_true.1 hst.1 j (List.mem_range.2 (by rw [List.length_map]; omega))
      rw [Nat.zero_add, alw_eq]
      simp only [Bool.or_eq_true, Bool.and_eq_true] at this ⊢
      rcases this with h1 | ⟨h1, h2⟩
      · exact .inl (by simpa using h1)
      · right
        have hlt : p < j := Nat.lt_of_succ_le (Nat.le_of_ble_eq_true h1)
        have hfl2 : F.length = E.length := hfl
        rw [hs x (ext_chain hx p (j - p) h x h2 (by rw [List.length_drop]; omega) hp (by rw [show p + (j - p) = j by omega]; exact hj))]
        exact beqV_self v
theorem WD.no' {dd : Option Tmp} (hi : Nat.blt i (kops c).toList.length = true) (hd : (kop c i).dst = dd) (hf : fitS n (kops c) (kop c i) S = true) (hw : wantS (kops c) (kop c i) S = false)
    (w : WD tb cf n N c (i + 1) (setS S dd (.tup [])) h k K Q) : WD tb cf n N c i S h k (0 :: K) Q := by
  obtain ⟨D, t', h', g1, g2, g3, g5, g4⟩ := w
  subst hd
  refine ⟨(.tup [], none) :: D, t', h', ?_, fun j => g2 (j + 1), fun E hs' ms p F hl hst hdr hx hfl => ?_, g5, g4⟩
  · rw [drop_kop hi]
    simp only [lexRun, fitS_eq, hf, if_true, wantS_eq, hw, setO_slt, g1]
  · rw [drop_kop hi]
    simp only [chk, wantS_eq, hw, Bool.true_and, setO_slt]
    exact g3 E hs' ms p F hl hst hdr hx hfl

theorem WS.pdrawC (hm : P.follows .mixedOrders = true) (hg : Good P cf) (hk : kind c = 6) (hst : statB (kops c) = true) (w : WD tb cf n N c 0 S h k K Q) (hc : drawOK (kops c) K = true) : WS P n N (.c c :: k) (slt S) h Q := by
  obtain ⟨D, t', h', g1, g2, g3, g5, g4⟩ := w
  unfold kind at hk
  split at hk <;> first | (cases hk; done) | skip
  next id ops =>
  simp only [drawOK, Bool.and_eq_true] at hc
  refine WS.draw (tb := tb) (cf := cf) hm hg hst ?_ g4
  have hl : lexRun tb cf n ops ops.toList (slt S) h = some (D, t', h') := g1
  have he := g2 0
  unfold evDr
  rw [hl]
  simp only
  split
  · rfl
  · have h1 : chn (msks ops.toList []) (effs D 0) = true := by rw [chn_eq, he]; exact hc.1
    have h2 := g3 (effs D 0) (h :: (effs D 0).map (·.2)) (msks ops.toList []) 0 (fl K) (by simp) (by rw [he]; exact hc.2) (by rw [effs_mems]; rfl) (by rw [effs_mems]; exact extOK_get g5) (by
      have e1 := congrArg List.length he
      rw [List.length_map] at e1
      rw [e1]
      exact fl_len K 0)
    rw [h1]
    simp only [if_true]
    exact if_pos h2
/-- What an operation does, by its text: 0 looks at slots alone, 1 reads, 2 makes or writes. -/
def kindOf (tb : Tb P) (o : Oper) : Nat := match o.op with
  | .load _ _ => 1
  | .alloc _ => 2
  | .box _ _ => 2
  | .buildSlice _ _ _ => 2
  | .makeSlice _ _ _ => 2
  | .store _ _ _ => 2
  | .convert s d _ => match tb.und d with
    | some (.slice _) => 2
    | some .string => (match tb.und s with
      | some .string => 0
      | _ => 1)
    | _ => 0
  | .call ⟨.builtin .append, _, _⟩ => 2
  | .call ⟨.builtin .copy, _, _⟩ => 2
  | .call ⟨.builtin _, _, _⟩ => 0
  | .call _ => 2
  | _ => 0
theorem WD.no1' {dd : Option Tmp} (hi : Nat.blt i (kops c).toList.length = true) (hd : (kop c i).dst = dd) (hf : fitS n (kops c) (kop c i) S = true) (hw : wantS (kops c) (kop c i) S = false)
    (w : WD tb cf n N c (i + 1) (setS S dd (.tup [])) h k K Q) : WD tb cf n N c i S h k (1 :: K) Q := by
  obtain ⟨D, t', h', g1, g2, g3, g5, g4⟩ := w
  subst hd
  refine ⟨(.tup [], none) :: D, t', h', ?_, fun j => g2 (j + 1), fun E hs' ms p F hl hst hdr hx hfl => ?_, g5, g4⟩
  · rw [drop_kop hi]
    simp only [lexRun, fitS_eq, hf, if_true, wantS_eq, hw, setO_slt, g1]
  · rw [drop_kop hi]
    simp only [stat1, Bool.and_eq_true] at hst
    simp only [chk, wantS_eq, hw, Bool.true_and, setO_slt]
    exact g3 E hs' ms p F hl hst.2 hdr hx hfl
theorem WS.pdraw (hm : P.follows .mixedOrders = true) (hk : kind c = 6) (hst : statB (kops c) = true) (hc : drawOK (kops c) ((kops c).toList.map (kindOf tb)) = true) (w : WD tb noCalls n N c 0 S h k ((kops c).toList.map (kindOf tb)) Q) : WS P n N (.c c :: k) (slt S) h Q := WS.pdrawC hm good_none hk hst w hc

/-! ### One operation's answer -/
variable {e : Operand → Option V} {op : Op}
theorem step_P (h0 : evP tb e op = some v) : step tb cf e h op = some (v, h) := by simp only [step, h0]
theorem evQ_P (h0 : evP tb e op = some v) : evQ tb cf e h op = some v := by simp only [evQ, h0]
theorem evQ_R (h0 : evP tb e op = none) (h1 : evR tb e h op = some v) : evQ tb cf e h op = some v := by simp only [evQ, h0, h1]
theorem step_R (h0 : evP tb e op = none) (h1 : evR tb e h op = some v) : step tb cf e h op = some (v, h) := by simp only [step, h0, h1]
theorem step_H (h0 : evP tb e op = none) (h2 : evR tb e h op = none) (h3 : evH tb e h op = some (v, h1)) : step tb cf e h op = some (v, h1) := by simp only [step, h0, h2, h3]
theorem evE_H (h3 : evH tb e h op = some (v, h1)) : evE tb cf e h op = some (v, h1) := by simp only [evE, h3]
theorem evP_index {T E : TypeId} {x ix : Operand} {l o len cap z j : Nat} {q : Bool} {kd : IntKind} {i : Int} (hop : op = .indexAddr T x ix) (hx : e x = some (.sl (some (l, o)) len cap q)) (hi : e ix = some (.i kd i))
    (hu : tb.und T = some (.slice E)) (hz : tb.sz E = some z) (hj : i = (j : Int)) (hl : j < len) : evP tb e op = some (.p (some (l, o + j * z))) := by
  subst hop; subst hj
  simp only [evP, hx, hi, iaV, hu, hz]
  rw [if_pos (by omega), if_pos (by omega)]; simp
theorem evR_load {T : TypeId} {x : Operand} {l o : Nat} {b : Blk} (hop : op = .load T x) (hx : e x = some (.p (some (l, o)))) (ha : isAgg tb T = some false) (hb : h.get l = some b) (hv : b.cells[o]? = some v) :
    evR tb e h op = some v := by
  subst hop; simp only [evR, hx, ldV, ha, hb, nthF_eq, hv]
theorem evR_loads {T : TypeId} {x : Operand} {l o z : Nat} {b : Blk} {vs : List V} (hop : op = .load T x) (hx : e x = some (.p (some (l, o)))) (ha : isAgg tb T = some true) (hz : tb.sz T = some z) (hb : h.get l = some b)
    (hv : (b.cells.drop o).take z = vs) (hl : vs.length = z) : evR tb e h op = some (.agg vs) := by
  subst hop; simp only [evR, hx, ldV, ha, hz, cellsAt, hb, hv, hl, if_true, Option.map_some]
theorem evH_store {T E : TypeId} {x y : Operand} {l o : Nat} {c : List V} (hop : op = .store T x y) (hx : e x = some (.p (some (l, o)))) (hy : e y = some v) (hz : tb.sz T = some (vcells v).length)
    (hb : h.get l = some ⟨c, E, true⟩) (hr : h.ro ≤ l) (hc : (vcells v).all isCell = true) (hn : (vcells v) ≠ []) (hl : o + (vcells v).length ≤ c.length) :
    evH tb e h op = some (.tup [], h.upd l (some ⟨setL c o (vcells v), E, true⟩)) := by
  subst hop; simp only [evH, hx, hy, stV, hz, if_true, stL_put _ h l o c E hb hr hc hl hn]
end

end Go.Proofs.Ytnogdgdkeojlpaa.Am
