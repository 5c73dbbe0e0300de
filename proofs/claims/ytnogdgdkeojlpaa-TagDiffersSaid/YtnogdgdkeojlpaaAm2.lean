/- The abstract machine, part 2: literals, loads, stores, append, copy, strings; one operation as the text has it. No conditions beyond those of each theorem. -/
import Derived.Test.YtnogdgdkeojlpaaAm1
import Derived.Laws.BytesString
import Derived.Lib.Bytealg
set_option linter.unusedSimpArgs false
set_option linter.unusedVariables false
namespace Go.Proofs.Ytnogdgdkeojlpaa.Am
open Go.RowKit (Below)

def setL {α : Type} : List α → Nat → List α → List α
  | cs, _, [] => cs
  | cs, o, v :: vs => setL (cs.set o v) (o + 1) vs
theorem setL_map {α β : Type} (f : α → β) : ∀ (vs cs : List α) (o : Nat), (setL cs o vs).map f = setL (cs.map f) o (vs.map f)
  | [], _, _ => rfl
  | v :: vs, cs, o => by simp only [setL, List.map_cons]; rw [setL_map f vs, List.map_set]
theorem mem_setL {α : Type} {x : α} : ∀ {vs cs : List α} {o : Nat}, x ∈ setL cs o vs → x ∈ cs ∨ x ∈ vs
  | [], _, _, h => .inl h
  | v :: vs, cs, o, h => by
    rcases mem_setL (vs := vs) (cs := cs.set o v) (o := o + 1) h with h | h
    · rcases List.mem_or_eq_of_mem_set h with h | h
      · exact .inl h
      · subst h; exact .inr (List.mem_cons_self ..)
    · exact .inr (List.mem_cons_of_mem _ h)
theorem fold_setL (o : Nat) : ∀ (vs : List Value) (k : Nat) (cs : List Value), (vs.zipIdx k).foldl (fun (a : Array Value) (x : Value × Nat) => a.setIfInBounds (o + x.2) x.1) cs.toArray = (setL cs (o + k) vs).toArray
  | [], _, _ => rfl
  | v :: vs, k, cs => by
    simp only [List.zipIdx_cons, List.foldl_cons, setL]
    rw [List.setIfInBounds_toArray, fold_setL o vs (k + 1)]
    rw [Nat.add_assoc]

def fillV (place : Nat → Option (Nat × Nat)) (cells : List V) : List (Nat × V) → Option (List V)
  | [] => some cells
  | (i, v) :: rest => match place i with
    | none => none
    | some (off, size) => if (vcells v).length = size then (if off + size ≤ cells.length then fillV place (setL cells off (vcells v)) rest else none) else none
theorem fillV_sound (r : Rho) (place : Nat → Option (Nat × Nat)) : ∀ {parts : List (Nat × V)} {cells out : List V}, fillV place cells parts = some out →
    Instr.fill place (conL r cells).toArray (parts.map fun x => (x.1, con r x.2)) = some (conL r out).toArray ∧ ∀ n, okL n cells → (∀ x ∈ parts, okV n x.2) → okL n out
  | [], cells, out, h => by simp only [fillV] at h; injection h with h; subst h; exact ⟨rfl, fun _ h _ => h⟩
  | (i, v) :: rest, cells, out, h => by
    simp only [fillV] at h
    split at h
    · cases h
    · next off size hp =>
      split at h
      · next h1 =>
        split at h
        · next h2 =>
          obtain ⟨h3, h4⟩ := fillV_sound r place h
          refine ⟨?_, fun n hc hx => h4 n ((okL_iff _ _).2 fun x hm => ?_) fun x hm => hx x (List.mem_cons_of_mem _ hm)⟩
          · simp only [List.map_cons, Instr.fill, hp, con_cells, List.size_toArray, length_conL]
            rw [if_neg (by simp [h1]; omega)]
            rw [← h3]
            congr 1
            rw [← Array.foldl_toList, Array.toList_zipIdx]
            have := fold_setL off (conL r (vcells v)) 0 (conL r cells)
            rw [Nat.add_zero] at this
            simp only [conL_eq] at this ⊢
            rw [setL_map]; exact this
          · rcases mem_setL hm with hm | hm
            · exact (okL_iff _ _).1 hc x hm
            · exact (okL_iff _ _).1 (okL_vcells (hx (i, v) (List.mem_cons_self ..))) x hm
        · cases h
      · cases h

section
variable {P : Program} (tb : Tb P) {B : Nat → Prop} {W w : World} {r : Rho} {H : LH}

def placesV : List Field → Option (List (Nat × Nat))
  | [] => some []
  | f :: fs => match tb.sz f.type, placesV fs with
    | some n, some l => some ((f.offset, n) :: l)
    | _, _ => none
theorem placesV_sound : ∀ {fs : List Field} {l : List (Nat × Nat)}, placesV tb fs = some l → fs.mapM (fun f => (P.info? f.type).map fun i => (f.offset, i.size)) = some l
  | [], l, h => by simp only [placesV] at h; injection h with h; subst h; rfl
  | f :: fs, l, h => by
    simp only [placesV] at h
    split at h
    · next n l' hn hl =>
      injection h with h; subst h
      obtain ⟨i, hi, hs⟩ := tb.info hn
      simp [List.mapM_cons, hi, hs, placesV_sound hl]
    · cases h

def nthP (l : List (Nat × Nat)) (i : Nat) : Option (Nat × Nat) := l[i]?
def elP (z i : Nat) : Option (Nat × Nat) := some (i * z, z)
def bdStruct (t : TypeId) (parts : List (Nat × V)) : Option V :=
  match tb.und t, tb.zero t with
  | some (.struct fs), some z => match placesV tb fs.toList with
    | some pl => (fillV (nthP pl) (vcells z) parts).map .agg
    | none => none
  | some (.array _ e), some z => match tb.sz e with
    | some n => (fillV (elP n) (vcells z) parts).map .agg
    | none => none
  | _, _ => none
theorem Tb.zeroInfo {t : TypeId} {v : V} (h : tb.zero t = some v) (r : Rho) : ∃ i z, P.info? t = some i ∧ i.zero = some z ∧ z.cells = (conL r (vcells v)).toArray ∧ (∀ n, okV n v) ∧ z = con r v := by
  have h := tb.zeroOk t v h
  cases hi : P.info? t with
  | none => rw [hi] at h; cases h
  | some i =>
    rw [hi] at h
    simp only [Option.bind_some] at h
    cases hz : i.zero with
    | none => rw [hz] at h; cases h
    | some z =>
      rw [hz] at h
      obtain ⟨h1, h2⟩ := con_ofValue h r
      exact ⟨i, z, rfl, hz, by rw [← h1, con_cells], h2, h1.symm⟩
theorem bdStruct_sound {t : TypeId} {parts : List (Nat × V)} {v : V} (h : bdStruct tb t parts = some v) (r : Rho) (w : World) :
    (Instr.build t (parts.map fun x => (x.1, con r x.2)).toArray).run P w = .ok (con r v) w ∧ ∀ n, (∀ x ∈ parts, okV n x.2) → okV n v := by
  unfold bdStruct at h
  split at h
  · next fs z hu hz =>
    have hu := tb.undOk _ _ hu
    obtain ⟨i, zz, hi, hzz, hcz, hok, _⟩ := tb.zeroInfo hz r
    split at h
    · next pl hpl =>
      obtain ⟨out, ho, hv⟩ := Option.map_eq_some_iff.1 h
      subst hv
      obtain ⟨h1, h2⟩ := fillV_sound r _ ho
      refine ⟨run_build w t _ _ ?_, fun n hx => h2 n (okL_vcells (hok n)) hx⟩
      have hn : (fun x : Nat => pl.toArray[x]?) = nthP pl := funext fun x => by simp [nthP]
      simp only [Program.built, hi, hu, hzz, placesV_sound tb hpl, hcz]
      rw [← h1, ← hn]
    · cases h
  · next e z hu hz =>
    have hu := tb.undOk _ _ hu
    obtain ⟨i, zz, hi, hzz, hcz, hok, _⟩ := tb.zeroInfo hz r
    split at h
    · next n hn =>
      obtain ⟨out, ho, hv⟩ := Option.map_eq_some_iff.1 h
      subst hv
      obtain ⟨h1, h2⟩ := fillV_sound r _ ho
      obtain ⟨ie, hie, hs⟩ := tb.info hn
      refine ⟨run_build w t _ _ ?_, fun n hx => h2 n (okL_vcells (hok n)) hx⟩
      simp only [Program.built, hi, hu, hzz, hie, hcz, hs]
      rw [← h1]
      rfl
    · cases h
  · cases h

/-! ### Lengths, the lesser and the greater -/
def lenV (t : TypeId) (x : V) : Option V :=
  match tb.und t, x with
  | some .string, .s s => some (.i .i64 s.size)
  | some (.slice _), .sl _ n _ _ => some (.i .i64 n)
  | some (.array n _), _ => some (.i .i64 n)
  | some (.pointer a), _ => match tb.und a with
    | some (.array n _) => some (.i .i64 n)
    | _ => none
  | _, _ => none
theorem con_sl_is (r : Rho) (a : Option (Nat × Nat)) (n c : Nat) (o : Bool) : ∃ b c', con r (.sl a n c o) = .slice b n c' := by
  rcases a with _ | ⟨l, q⟩
  · exact ⟨none, c, rfl⟩
  · exact ⟨_, _, rfl⟩
theorem lenV_sound {t ty : TypeId} {x v : V} (h : lenV tb t x = some v) (r : Rho) (w : World) : (Builtin.len_ #[t] ty #[con r x]).run P w = .ok (con r v) w ∧ ∀ n, okV n v := by
  unfold lenV at h
  split at h
  · next hu => injection h with h; subst h; exact ⟨by simp [Builtin.len_, run_underlying (tb.undOk _ _ hu), con, goInt], fun _ => trivial⟩
  · next hu =>
    injection h with h; subst h
    rename_i a n c o
    obtain ⟨b, c', e⟩ := con_sl_is r a n c o
    exact ⟨by rw [e]; simp [Builtin.len_, run_underlying (tb.undOk _ _ hu), con, goInt], fun _ => trivial⟩
  · next hu => injection h with h; subst h; exact ⟨by simp [Builtin.len_, run_underlying (tb.undOk _ _ hu), con, goInt], fun _ => trivial⟩
  · next hu =>
    split at h
    · next hu2 => injection h with h; subst h; exact ⟨by simp [Builtin.len_, run_underlying (tb.undOk _ _ hu), run_underlying (tb.undOk _ _ hu2), con, goInt], fun _ => trivial⟩
    · cases h
  · cases h

def mmV (great : Bool) : V → List V → Option V
  | x, [] => some x
  | .i k a, .i _ b :: l => mmV great (.i k (if great then (if b > a then b else a) else (if b < a then b else a))) l
  | _, _ => none

end

section
variable {P : Program} (tb : Tb P) {B : Nat → Prop} {W w : World} {r : Rho} {H : LH}

theorem mmV_max (r : Rho) (w : World) : ∀ {l : List V} {x v : V}, mmV true x l = some v → ((conL r l).foldlM Builtin.max2 (con r x) : Sem Value).run P w = .ok (con r v) w ∧ ∀ n, okV n x → okV n v
  | [], x, v, h => by simp only [mmV] at h; injection h with h; subst h; exact ⟨rfl, fun _ h => h⟩
  | y :: l, x, v, h => by
    unfold mmV at h
    split at h
    · next e => cases e
    · next k a k' b l' e =>
      injection e with e1 e2; subst e1; subst e2
      obtain ⟨h1, h2⟩ := mmV_max r w h
      refine ⟨?_, fun n _ => h2 n trivial⟩
      simp only [conL, List.foldlM_cons, Sem.run_bind, con, Builtin.max2, Sem.run_pure, Result.andThen_ok]
      simpa [con] using h1
    · cases h
theorem mmV_min (r : Rho) (w : World) : ∀ {l : List V} {x v : V}, mmV false x l = some v → ((conL r l).foldlM Builtin.min2 (con r x) : Sem Value).run P w = .ok (con r v) w ∧ ∀ n, okV n x → okV n v
  | [], x, v, h => by simp only [mmV] at h; injection h with h; subst h; exact ⟨rfl, fun _ h => h⟩
  | y :: l, x, v, h => by
    unfold mmV at h
    split at h
    · next e => cases e
    · next k a k' b l' e =>
      injection e with e1 e2; subst e1; subst e2
      obtain ⟨h1, h2⟩ := mmV_min r w h
      refine ⟨?_, fun n _ => h2 n trivial⟩
      simp only [conL, List.foldlM_cons, Sem.run_bind, con, Builtin.min2, Sem.run_pure, Result.andThen_ok]
      simpa [con] using h1
    · cases h

/-! ### Operands -/
def evLs (e : Operand → Option V) : List Operand → Option (List V)
  | [] => some []
  | x :: l => match e x, evLs e l with
    | some v, some vs => some (v :: vs)
    | _, _ => none
def evOp? (e : Operand → Option V) : Option Operand → Option (Option V)
  | none => some none
  | some x => match e x with
    | some v => some (some v)
    | none => none
def evPs (e : Operand → Option V) : List (Nat × Operand) → Option (List (Nat × V))
  | [] => some []
  | (i, x) :: l => match e x, evPs e l with
    | some v, some vs => some ((i, v) :: vs)
    | _, _ => none

/-- The operands' values are what the frame holds. -/
def Holds (r : Rho) (nx : Nat) (e : Operand → Option V) (ev : Operand → Value) : Prop := ∀ x v, e x = some v → ev x = con r v ∧ okV nx v

variable {e : Operand → Option V} {ev : Operand → Value} {nx : Nat}

theorem evLs_sound (h : Holds r nx e ev) : ∀ {l : List Operand} {vs : List V}, evLs e l = some vs → l.map ev = conL r vs ∧ okL nx vs
  | [], vs, hl => by injection hl with hl; subst hl; exact ⟨rfl, trivial⟩
  | x :: l, vs, hl => by
    simp only [evLs] at hl
    split at hl
    · next v us hv hus =>
      injection hl with hl; subst hl
      obtain ⟨h1, h2⟩ := h x v hv
      obtain ⟨h3, h4⟩ := evLs_sound h hus
      exact ⟨by simp [conL, h1, h3], h2, h4⟩
    · cases hl
theorem evOp?_sound (h : Holds r nx e ev) {x : Option Operand} {v : Option V} (hx : evOp? e x = some v) : x.map ev = v.map (con r) := by
  cases x with
  | none => simp only [evOp?] at hx; injection hx with hx; subst hx; rfl
  | some x =>
    simp only [evOp?] at hx
    split at hx
    · next v' hv => injection hx with hx; subst hx; simp [(h x v' hv).1]
    · cases hx
theorem evPs_sound (h : Holds r nx e ev) : ∀ {l : List (Nat × Operand)} {vs : List (Nat × V)}, evPs e l = some vs → (l.map fun (i, x) => (i, ev x)) = (vs.map fun x => (x.1, con r x.2)) ∧ ∀ x ∈ vs, okV nx x.2
  | [], vs, hl => by injection hl with hl; subst hl; exact ⟨rfl, fun _ h => by cases h⟩
  | (i, x) :: l, vs, hl => by
    simp only [evPs] at hl
    split at hl
    · next v us hv hus =>
      injection hl with hl; subst hl
      obtain ⟨h1, h2⟩ := h x v hv
      obtain ⟨h3, h4⟩ := evPs_sound h hus
      refine ⟨by simp [h1]; exact h3, fun y hy => ?_⟩
      rcases List.mem_cons.1 hy with rfl | hy
      · exact h2
      · exact h4 y hy
    · cases hl

/-! ### The operations that ask nothing of the memory -/
def evB (e : Operand → Option V) (b : Builtin) (ts : List TypeId) (args : List Operand) : Option V :=
  match b with
  | .len => match ts, args with
    | [t], [x] => match e x with | some v => lenV tb t v | none => none
    | _, _ => none
  | .max => match evLs e args with
    | some (v :: vs) => mmV true v vs
    | _ => none
  | .min => match evLs e args with
    | some (v :: vs) => mmV false v vs
    | _ => none
  | _ => none

def evP (e : Operand → Option V) : Op → Option V
  | .move x => e x
  | .assign x => e x
  | .pick c x y => match e c with
    | some (.b true) => e x
    | some (.b false) => e y
    | _ => none
  | .build t ps => match evPs e ps.toList with | some l => bdStruct tb t l | none => none
  | .nilCheck x => match e x with
    | some (.p (some a)) => some (.p (some a))
    | some (.fn f cs) => some (.fn f cs)
    | some (.ifc t v) => some (.ifc t v)
    | _ => none
  | .binOp op t x y _ => match e x, e y with
    | some a, some b => binV tb op x y t a b
    | _, _ => none
  | .unOp op _ x => match e x with | some a => unV op a | none => none
  | .convert s d x => match e x with | some a => cvV tb s d a | none => none
  | .makeInterface t x => match e x with | some a => mkIf tb t a | none => none
  | .makeFunc (.func f) first cap => if first.size = 0 then (match evLs e cap.toList with | some l => some (.fn f l) | none => none) else none
  | .slice t x lo hi mx => match e x, evOp? e lo, evOp? e hi, evOp? e mx with
    | some v, some l, some h, some m => slV tb t v l h m
    | _, _, _, _ => none
  | .fieldAddr s x f => match e x with | some v => faV tb s v f | none => none
  | .field s x f => match e x with | some v => fdV tb s v f | none => none
  | .indexAddr t x i => match e x, e i with
    | some v, some k => iaV tb t v k
    | _, _ => none
  | .index t x i => match e x, e i with
    | some v, some k => ixV tb t v k
    | _, _ => none
  | .extract x i => match e x with | some v => exV v i | none => none
  | .typeAssert x _ t ok => match e x with | some v => taV tb v t ok | none => none
  | .call ⟨.builtin b, args, ts⟩ => evB tb e b ts.toList args.toList
  | _ => none

theorem okL_of_get {n : Nat} {l : List V} (h : okL n l) {i : Nat} {v : V} (hv : l[i]? = some v) : okV n v := (okL_iff _ _).1 h v (List.mem_of_getElem? hv)

theorem evB_sound {b : Builtin} {ts : Array TypeId} {args : Array Operand} {v : V} {ty : TypeId} {cs : Array Bool} (hE : Holds r nx e ev) (h : evB tb e b ts.toList args.toList = some v) (w : World) :
    (builtin b ts ty cs (args.map ev)).run P w = .ok (.value (con r v)) w ∧ okV nx v := by
  obtain ⟨ts⟩ := ts
  obtain ⟨args⟩ := args
  unfold evB at h
  split at h
  · split at h
    · next t x e1 e2 =>
      simp only at e1 e2; subst e1; subst e2
      split at h
      · next u hu =>
        obtain ⟨h1, h2⟩ := hE x u hu
        obtain ⟨h3, h4⟩ := lenV_sound tb h r w (ty := ty)
        refine ⟨?_, h4 nx⟩
        simp only [builtin, List.map_toArray, List.map_cons, List.map_nil, h1, Sem.run_bind, h3, Result.andThen_ok, Sem.run_pure]
      · cases h
    · cases h
  · split at h
    · next u us hu =>
      obtain ⟨h1, h2⟩ := evLs_sound hE hu
      obtain ⟨h3, h4⟩ := mmV_max r w h (P := P)
      refine ⟨?_, h4 nx h2.1⟩
      simp only at h1
      simp only [builtin, List.map_toArray, h1, Builtin.max_, conL, Sem.run_bind, h3, Result.andThen_ok, Sem.run_pure]
    · cases h
  · split at h
    · next u us hu =>
      obtain ⟨h1, h2⟩ := evLs_sound hE hu
      obtain ⟨h3, h4⟩ := mmV_min r w h (P := P)
      refine ⟨?_, h4 nx h2.1⟩
      simp only at h1
      simp only [builtin, List.map_toArray, h1, Builtin.min_, conL, Sem.run_bind, h3, Result.andThen_ok, Sem.run_pure]
    · cases h
  · cases h

theorem evP_sound {o : Oper} {v : V} (hE : Holds r nx e ev) (h : evP tb e o.op = some v) (w : World) : (execOp ev o).run P w = .ok (.value (con r v)) w ∧ okV nx v := by
  unfold execOp
  unfold evP at h
  split at h
  case h_1 x hop => obtain ⟨h1, h2⟩ := hE x v h; rw [hop]; simp only [h1]; exact ⟨rfl, h2⟩
  case h_2 x hop => obtain ⟨h1, h2⟩ := hE x v h; rw [hop]; simp only [h1]; exact ⟨rfl, h2⟩
  case h_3 c x y hop =>
    rw [hop]; simp only
    split at h
    · next hc => obtain ⟨h1, _⟩ := hE c _ hc; obtain ⟨h3, h4⟩ := hE x v h; exact ⟨by simp [h1, con, asBool, h3], h4⟩
    · next hc => obtain ⟨h1, _⟩ := hE c _ hc; obtain ⟨h3, h4⟩ := hE y v h; exact ⟨by simp [h1, con, asBool, h3], h4⟩
    · cases h
  case h_4 t ps hop =>
    rw [hop]; simp only
    split at h
    · next l hl =>
      obtain ⟨h1, h2⟩ := evPs_sound hE hl
      obtain ⟨h3, h4⟩ := bdStruct_sound tb h r w
      refine ⟨?_, h4 nx h2⟩
      have : (ps.map fun (i, x) => (i, ev x)) = (l.map fun x => (x.1, con r x.2)).toArray := by rw [← h1]; apply Array.ext'; simp
      simp only [this, Sem.run_bind, h3, Result.andThen_ok, Sem.run_pure]
    · cases h
  case h_5 x hop =>
    rw [hop]; simp only
    split at h
    · next a hx => injection h with h; subst h; obtain ⟨h1, h2⟩ := hE x _ hx; rw [h1]; exact ⟨rfl, h2⟩
    · next f cs hx => injection h with h; subst h; obtain ⟨h1, h2⟩ := hE x _ hx; rw [h1]; exact ⟨rfl, h2⟩
    · next t u hx => injection h with h; subst h; obtain ⟨h1, h2⟩ := hE x _ hx; rw [h1]; exact ⟨rfl, h2⟩
    · cases h
  case h_6 op t x y ty hop =>
    rw [hop]; simp only
    split at h
    · next a b ha hb =>
      obtain ⟨h1, _⟩ := hE x _ ha
      obtain ⟨h2, _⟩ := hE y _ hb
      obtain ⟨h3, h4, h5⟩ := binV_sound tb h r w
      exact ⟨by simp only [h1, h2, Sem.run_bind, h3, h4, Result.andThen_ok, Sem.run_pure], h5 nx⟩
    · cases h
  case h_7 op ty x hop =>
    rw [hop]; simp only
    split at h
    · next a ha => obtain ⟨h1, _⟩ := hE x _ ha; obtain ⟨h3, h4⟩ := unV_sound h r w (P := P); exact ⟨by simp only [h1, Sem.run_bind, h3, Result.andThen_ok, Sem.run_pure], h4 nx⟩
    · cases h
  case h_8 s d x hop =>
    rw [hop]; simp only
    split at h
    · next a ha => obtain ⟨h1, _⟩ := hE x _ ha; obtain ⟨h3, h4⟩ := cvV_sound tb h r w; exact ⟨by simp only [h1, Sem.run_bind, h3, Result.andThen_ok, Sem.run_pure], h4 nx⟩
    · cases h
  case h_9 t x hop =>
    rw [hop]; simp only
    split at h
    · next a ha => obtain ⟨h1, h2⟩ := hE x _ ha; obtain ⟨h3, h4⟩ := mkIf_sound tb h r w; exact ⟨by simp only [h1, Sem.run_bind, h3, Result.andThen_ok, Sem.run_pure], h4 nx h2⟩
    · cases h
  case h_10 f first cap hop =>
    rw [hop]; simp only
    split at h
    · next hf =>
      split at h
      · next l hl =>
        injection h with h; subst h
        obtain ⟨h1, h2⟩ := evLs_sound hE hl
        have hfirst : first.map ev = #[] := by rw [Array.eq_empty_of_size_eq_zero hf]; simp
        have hcap : cap.map ev = (conL r l).toArray := by rw [← h1]; apply Array.ext'; simp
        exact ⟨by simp only [Instr.makeFunc, hfirst, hcap, con, Sem.run_bind, Result.andThen_ok, Sem.run_pure], h2⟩
      · cases h
    · cases h
  case h_11 t x lo hi mx hop =>
    rw [hop]; simp only
    split at h
    · next u l hh m hu hl hh' hm =>
      obtain ⟨h1, h2⟩ := hE x _ hu
      obtain ⟨h3, h4⟩ := slV_sound tb h r w
      rw [evOp?_sound hE hl, evOp?_sound hE hh', evOp?_sound hE hm, h1]
      exact ⟨by simp only [Sem.run_bind, h3, Result.andThen_ok, Sem.run_pure], h4 nx h2⟩
    · cases h
  case h_12 s x f hop =>
    rw [hop]; simp only
    split at h
    · next a ha => obtain ⟨h1, h2⟩ := hE x _ ha; obtain ⟨h3, h4⟩ := faV_sound tb h r w; exact ⟨by simp only [h1, Sem.run_bind, h3, Result.andThen_ok, Sem.run_pure], h4 nx h2⟩
    · cases h
  case h_13 s x f hop =>
    rw [hop]; simp only
    split at h
    · next a ha => obtain ⟨h1, h2⟩ := hE x _ ha; obtain ⟨h3, h4⟩ := fdV_sound tb h r w; exact ⟨by simp only [h1, Sem.run_bind, h3, Result.andThen_ok, Sem.run_pure], h4 nx h2⟩
    · cases h
  case h_14 t x i hop =>
    rw [hop]; simp only
    split at h
    · next a b ha hb => obtain ⟨h1, h2⟩ := hE x _ ha; obtain ⟨h5, _⟩ := hE i _ hb; obtain ⟨h3, h4⟩ := iaV_sound tb h r w; exact ⟨by simp only [h1, h5, Sem.run_bind, h3, Result.andThen_ok, Sem.run_pure], h4 nx h2⟩
    · cases h
  case h_15 t x i hop =>
    rw [hop]; simp only
    split at h
    · next a b ha hb => obtain ⟨h1, h2⟩ := hE x _ ha; obtain ⟨h5, _⟩ := hE i _ hb; obtain ⟨h3, h4⟩ := ixV_sound tb h r w; exact ⟨by simp only [h1, h5, Sem.run_bind, h3, Result.andThen_ok, Sem.run_pure], h4 nx h2⟩
    · cases h
  case h_16 x i hop =>
    rw [hop]; simp only
    split at h
    · next a ha => obtain ⟨h1, h2⟩ := hE x _ ha; obtain ⟨h3, h4⟩ := exV_sound h r w (P := P); exact ⟨by simp only [h1, Sem.run_bind, h3, Result.andThen_ok, Sem.run_pure], h4 nx h2⟩
    · cases h
  case h_17 x xT t ok hop =>
    rw [hop]; simp only
    split at h
    · next a ha => obtain ⟨h1, h2⟩ := hE x _ ha; obtain ⟨h3, h4⟩ := taV_sound tb h r w (xT := xT); exact ⟨by simp only [h1, Sem.run_bind, h3, Result.andThen_ok, Sem.run_pure], h4 nx h2⟩
    · cases h
  case h_18 b args ts hop =>
    rw [hop]; simp only
    refine ⟨?_, (evB_sound tb hE h w (ty := o.type) (cs := #[])).2⟩
    simp only [resolve, Sem.run_bind, Sem.run_pure, Result.andThen_ok, invoke]
    exact (evB_sound tb hE h w).1
  case h_19 => cases h

/-- A load. -/
def evLd (e : Operand → Option V) (h : LH) : Op → Option V
  | .load t x => match e x with | some v => ldV tb h t v | none => none
  | _ => none
theorem evLd_sound {o : Oper} {v : V} (R : RelH P B W r H w) (hE : Holds r H.next e ev) (h : evLd tb e H o.op = some v) : (execOp ev o).run P w = .ok (.value (con r v)) w ∧ okV H.next v := by
  unfold execOp
  unfold evLd at h
  split at h
  · next t x hop =>
    rw [hop]; simp only
    split at h
    · next a ha => obtain ⟨h1, h2⟩ := hE x _ ha; obtain ⟨h3, h4⟩ := ldV_sound tb R h; exact ⟨by simp only [h1, Sem.run_bind, h3, Result.andThen_ok, Sem.run_pure], h4⟩
    · cases h
  · cases h

end

section
variable {P : Program} (tb : Tb P) {B : Nat → Prop} {W w : World} {r : Rho} {H : LH}

def allocV (h : LH) (t : TypeId) : Option (V × LH) :=
  match tb.zero t with
  | some z => some (.p (some (h.next, 0)), h.new ⟨vcells z, t, true⟩)
  | none => none
theorem RelH.row' (R : RelH P B W r H w) {cs : List V} (t : TypeId) (hcs : okL H.next cs) (n c : Nat) :
    ∃ u w', (newRow t (conL r cs).toArray).run P w = .ok u w' ∧ Leaves P B W r H (.p (some (H.next, 0))) (H.new ⟨cs, t, true⟩) (.pointer (some u)) w' ∧
      Leaves P B W r H (.sl (some (H.next, 0)) n c false) (H.new ⟨cs, t, true⟩) (.slice (some u) n c) w' := by
  obtain ⟨r', h1, h2, h3, h4, h5⟩ := R.row t hcs
  exact ⟨_, _, h1, ⟨r', by simp [con, h4], h2, Nat.lt_succ_self _, h5, Keeps.new R.roLe _⟩, ⟨r', by simp [con, h4], h2, Nat.lt_succ_self _, h5, Keeps.new R.roLe _⟩⟩

theorem allocV_sound (R : RelH P B W r H w) {t : TypeId} {v : V} {H' : LH} (h : allocV tb H t = some (v, H')) :
    ∃ u w', (Instr.alloc t true (.tuple #[])).run P w = .ok u w' ∧ Leaves P B W r H v H' u w' := by
  unfold allocV at h
  split at h
  · next z hz =>
    simp only [Option.some.injEq, Prod.mk.injEq] at h
    obtain ⟨rfl, rfl⟩ := h
    obtain ⟨h1, h2⟩ := run_zeroValue tb hz r w
    obtain ⟨u, w', h3, h4, _⟩ := R.row' t (okL_vcells (h2 H.next)) 0 0
    exact ⟨_, w', by simp only [Instr.alloc, newVar, con_cells, Sem.run_bind, h1, Result.andThen_ok, h3, Sem.run_pure], h4⟩
  · cases h

theorem boxV_sound (R : RelH P B W r H w) {t : TypeId} {x : V} (hx : okV H.next x) :
    ∃ u w', (Instr.box t (con r x)).run P w = .ok u w' ∧ Leaves P B W r H (.p (some (H.next, 0))) (H.new ⟨vcells x, t, true⟩) u w' := by
  obtain ⟨u, w', h3, h4, _⟩ := R.row' t (okL_vcells hx) 0 0
  exact ⟨_, w', by simp only [Instr.box, newVar, con_cells, Sem.run_bind, Result.andThen_ok, h3, Sem.run_pure], h4⟩

/-- n cells, the noughts of a type one after the other. -/
def reps (z : List V) : Nat → List V
  | 0 => []
  | n + 1 => z ++ reps z n
theorem reps_length (z : List V) (n : Nat) : (reps z n).length = n * z.length := by
  induction n with
  | zero => simp [reps]
  | succ n ih => simp [reps, ih, Nat.succ_mul]; omega
theorem reps_get (z : List V) (n : Nat) : ∀ i, i < n * z.length → (reps z n)[i]? = z[i % z.length]? := by
  induction n with
  | zero => intro i hi; omega
  | succ n ih =>
    intro i hi
    rw [Nat.succ_mul] at hi
    simp only [reps]
    by_cases h : i < z.length
    · rw [List.getElem?_append_left h, Nat.mod_eq_of_lt h]
    · rw [List.getElem?_append_right (by omega), ih _ (by omega), ← Nat.mod_eq_sub_mod (by omega)]
theorem ok_reps {m : Nat} {z : List V} (h : okL m z) (n : Nat) : okL m (reps z n) := by
  induction n with
  | zero => trivial
  | succ n ih =>
    simp only [reps]
    refine (okL_iff _ _).2 fun v hv => ?_
    rcases List.mem_append.1 hv with h' | h'
    · exact (okL_iff _ _).1 h v h'
    · exact (okL_iff _ _).1 ih v h'
theorem made_reps (r : Rho) (z : List V) (n : Nat) (hz : 0 < z.length) : (Array.range (n * z.length)).map ((conL r z).toArray[· % (conL r z).toArray.size]!) = (conL r (reps z n)).toArray := by
  apply Array.ext'
  simp only [Array.toList_map, Array.toList_range]
  apply List.ext_getElem?
  intro i
  rw [getElem?_conL]
  by_cases hi : i < n * z.length
  · rw [reps_get z n i hi, List.getElem?_map, List.getElem?_range hi]
    simp only [Option.map_some, List.size_toArray, length_conL]
    have hm : i % z.length < z.length := Nat.mod_lt _ hz
    have : (conL r z)[i % z.length]? = some ((conL r z)[i % z.length]'(by rw [length_conL]; exact hm)) := List.getElem?_eq_getElem _
    rw [List.getElem!_toArray, List.getElem!_eq_getElem?_getD, this, Option.getD_some, ← this, getElem?_conL]
  · rw [List.getElem?_eq_none (by simp; omega), List.getElem?_eq_none (by rw [reps_length]; omega)]; rfl

def mkSl (h : LH) (t : TypeId) (l c : V) : Option (V × LH) :=
  match tb.und t, l, c with
  | some (.slice e), .i _ l, .i _ c => match tb.sz e, tb.bytes e, tb.zero e with
    | some z, some by_, some zv =>
      if 0 ≤ l then (if l ≤ c then (if (by_ : Int) * c ≤ 281474976710656 then (if c ≤ 9223372036854775807 then (if (vcells zv).length = z then (if 0 < z then
        some (.sl (some (h.next, 0)) l.toNat c.toNat false, h.new ⟨reps (vcells zv) c.toNat, e, true⟩) else none) else none) else none) else none) else none) else none
    | _, _, _ => none
  | _, _, _ => none
theorem mkSl_sound (R : RelH P B W r H w) {t : TypeId} {l c v : V} {H' : LH} (h : mkSl tb H t l c = some (v, H')) :
    ∃ u w', (Instr.makeSlice t (con r l) (con r c)).run P w = .ok u w' ∧ Leaves P B W r H v H' u w' := by
  unfold mkSl at h
  split at h
  · next e kl l kc c hu =>
    have hu := tb.undOk _ _ hu
    split at h
    · next z by_ zv hz hb hzv =>
      split at h
      · next h0 =>
        split at h
        · next h1 =>
          split at h
          · next h2 =>
            split at h
            · next h3 =>
              split at h
              · next h4 =>
                split at h
                · next h5 =>
                  simp only [Option.some.injEq, Prod.mk.injEq] at h
                  obtain ⟨rfl, rfl⟩ := h
                  obtain ⟨i, zz, hi, hzz, hcz, hok, _⟩ := tb.zeroInfo hzv r
                  obtain ⟨i2, hi2, hs⟩ := tb.info hz
                  obtain ⟨i3, hi3, hbs⟩ := tb.infoB hb
                  rw [hi] at hi2 hi3
                  obtain rfl := Option.some.inj hi2
                  obtain rfl := Option.some.inj hi3
                  have hrun := run_make (P := P) w t e i zz hu hi hzz kl kc l c h0 h1 (by rw [hbs]; exact h2) h3
                  have hm : madeCells zz.cells (c.toNat * i.size) = (conL r (reps (vcells zv) c.toNat)).toArray := by
                    unfold madeCells
                    rw [hcz, hs, ← h4]
                    exact made_reps r _ _ (by rw [h4]; exact h5)
                  rw [hm] at hrun
                  obtain ⟨r', h6, h7, h8, h9, h10⟩ := R.row e (ok_reps (okL_vcells (hok H.next)) c.toNat)
                  have hr : (r' H.next).1 = ⟨w.heap.size, 0, none⟩ := by
                    simp only [newRow, Sem.run_bind, run_newObj, Result.andThen_ok, Sem.run_pure, Result.ok.injEq] at h6
                    exact h6.1.symm
                  exact ⟨_, _, hrun, r', by rw [← hr]; simp [con, h9], h7, Nat.lt_succ_self _, h10, Keeps.new R.roLe _⟩
                · cases h
              · cases h
            · cases h
          · cases h
        · cases h
      · cases h
    · cases h
  · cases h

def bdSl (h : LH) (t : TypeId) (len : Nat) (parts : List (Nat × V)) : Option (V × LH) :=
  match tb.und t with
  | some (.slice e) => match tb.sz e, tb.zero e with
    | some z, some zv =>
      if len * z ≤ 16777216 then (if (vcells zv).length = z then (if 0 < z then (match fillV (elP z) (reps (vcells zv) len) parts with
        | some cs => some (.sl (some (h.next, 0)) len len false, h.new ⟨cs, e, true⟩)
        | none => none) else none) else none) else none
    | _, _ => none
  | _ => none
theorem bdSl_sound (R : RelH P B W r H w) {t : TypeId} {len : Nat} {parts : List (Nat × V)} {v : V} {H' : LH} (hp : ∀ x ∈ parts, okV H.next x.2) (h : bdSl tb H t len parts = some (v, H')) :
    ∃ u w', (Instr.buildSlice t len (parts.map fun x => (x.1, con r x.2)).toArray).run P w = .ok u w' ∧ Leaves P B W r H v H' u w' := by
  unfold bdSl at h
  split at h
  · next e hu =>
    have hu := tb.undOk _ _ hu
    split at h
    · next z zv hz hzv =>
      split at h
      · next h1 =>
        split at h
        · next h2 =>
          split at h
          · next h3 =>
            split at h
            · next cs hcs =>
              simp only [Option.some.injEq, Prod.mk.injEq] at h
              obtain ⟨rfl, rfl⟩ := h
              obtain ⟨i, zz, hi, hzz, hcz, hok, _⟩ := tb.zeroInfo hzv r
              obtain ⟨i2, hi2, hs⟩ := tb.info hz
              rw [hi] at hi2
              obtain rfl := Option.some.inj hi2
              obtain ⟨hf, hfo⟩ := fillV_sound r _ hcs
              have hm : (Array.range (len * i.size)).map (zz.cells[· % zz.cells.size]!) = (conL r (reps (vcells zv) len)).toArray := by
                rw [hcz, hs, ← h2]; exact made_reps r _ _ (by rw [h2]; exact h3)
              obtain ⟨r', h6, h7, h8, h9, h10⟩ := R.row e (hfo H.next (ok_reps (okL_vcells (hok H.next)) len) hp)
              have hr : (r' H.next).1 = ⟨w.heap.size, 0, none⟩ := by
                simp only [newRow, Sem.run_bind, run_newObj, Result.andThen_ok, Sem.run_pure, Result.ok.injEq] at h6
                exact h6.1.symm
              have hb : ¬ len * i.size > 2 ^ 24 := by rw [hs]; omega
              have hf' : Instr.fill (fun j => some (j * i.size, i.size)) (conL r (reps (vcells zv) len)).toArray (parts.map fun x => (x.1, con r x.2)) = some (conL r cs).toArray := by
                rw [← hf, hs]; rfl
              rw [← hm] at hf'
              refine ⟨.slice (some ⟨w.heap.size, 0, none⟩) len len, w.alloc (.cells (conL r cs).toArray e), ?_, r', by rw [← hr]; simp [con, h9], h7, Nat.lt_succ_self _, h10, Keeps.new R.roLe _⟩
              by_cases hl : len * i.size = 0
              · rw [hl] at hf'
                have e0 : ∀ f : Nat → Value, (Array.range 0).map f = #[] := fun f => by simp
                rw [e0] at hf'
                have hb0 : ¬ (0 : Nat) > 16777216 := by omega
                simp only [Instr.buildSlice, run_underlying hu, sizeOf, run_typeInfo hi, Sem.run_bind, Result.andThen_ok, Sem.run_pure, hl, if_true]
                rw [if_neg (by omega)]
                simp only [e0, hf', Sem.run_bind, Result.andThen_ok, Sem.run_pure, newRow, run_newObj]
                rfl
              · exact run_buildSlice w t e len _ _ i zz hu hi hzz hb hl hf'
            · cases h
          · cases h
        · cases h
      · cases h
    · cases h
  · cases h

end

section
variable {P : Program} (tb : Tb P) {B : Nat → Prop} {W w : World} {r : Rho} {H : LH}

/-- A row of stores into a block that is known whole. -/
theorem run_storeCells_blk {k : Nat} {t : TypeId} {fr : Nat × Nat} : ∀ (vs : List Value) (o i : Nat) (cur : List Value) (w : World), w.heap[k]? = some (.cells cur.toArray t fr) →
    (∀ j, j < cur.length → ¬ (fr.1 ≤ j ∧ j < fr.2)) → o + i + vs.length ≤ cur.length → (∀ v ∈ vs, v.oneCell' = true) →
    ∃ w', (storeCells ⟨k, o, none⟩ vs i).run P w = .ok () w' ∧ w'.heap[k]? = some (.cells (setL cur (o + i) vs).toArray t fr) ∧ (∀ j, j ≠ k → w'.heap[j]? = w.heap[j]?) ∧
      w'.os = w.os ∧ w'.tape = w.tape ∧ w'.output = w.output ∧ w'.heap.size = w.heap.size
  | [], o, i, cur, w, h, _, _, _ => ⟨w, rfl, h, fun _ _ => rfl, rfl, rfl, rfl, rfl⟩
  | v :: vs, o, i, cur, w, h, hfr, hl, h1 => by
    have hi : o + i < cur.length := by simp at hl; omega
    have hadd : (⟨k, o, none⟩ : Addr).add i = ⟨k, o + i, none⟩ := add_none _ _ _
    have hcell : w.cell? ⟨k, o + i, none⟩ = some cur[o + i] := by rw [cell_of_block h]; simp [hi]
    have hfz : w.frozen? ⟨k, o + i, none⟩ = false := by
      rw [frozen_of_block h]
      have := hfr (o + i) hi
      simp only [Bool.and_eq_false_iff, decide_eq_false_iff_not]; omega
    have hset : (w.setCell ⟨k, o + i, none⟩ v).heap[k]? = some (.cells (cur.set (o + i) v).toArray t fr) := by
      simp only [World.setCell, Array.getElem?_modify, if_true, h, Option.map_some]
      simp
    obtain ⟨w', e1, e2, e3, e4, e5, e6, e7⟩ := run_storeCells_blk vs o (i + 1) (cur.set (o + i) v) (w.setCell ⟨k, o + i, none⟩ v) hset (by simpa using hfr) (by simp at hl ⊢; omega) (fun x hx => h1 x (List.mem_cons_of_mem _ hx))
    refine ⟨w', ?_, ?_, ?_, e4, e5, e6, by rw [e7]; simp⟩
    · simp only [storeCells, Sem.run_bind, hadd, run_store P w _ v _ (h1 v (List.mem_cons_self ..)), hcell, hfz, Bool.false_eq_true, if_false, Result.andThen_ok]
      exact e1
    · rw [e2]; rfl
    · intro j hj
      rw [e3 j hj, RowKit.Below.heap_setCell _ _ _ _ hj]

theorem setL_eq {α : Type} : ∀ (vs X : List α) (o : Nat), o + vs.length ≤ X.length → setL X o vs = X.take o ++ vs ++ X.drop (o + vs.length)
  | [], X, o, _ => by simp [setL]
  | v :: vs, X, o, h => by
    have hl : o < X.length := by simp at h; omega
    rw [setL, setL_eq vs (X.set o v) (o + 1) (by simp at h ⊢; omega)]
    have e1 : (X.set o v).take (o + 1) = X.take o ++ [v] := by
      rw [List.take_set, List.take_succ_eq_append_getElem hl, List.set_append_right _ _ (by simp; omega)]
      simp [Nat.min_eq_left (Nat.le_of_lt hl)]
    rw [e1, List.drop_set_of_lt (by omega), List.length_cons, show o + 1 + vs.length = o + (vs.length + 1) by omega]
    simp

/-- What is appended or copied: how many elements, and their cells. -/
def srcV (h : LH) (z : Nat) : V → Option (Nat × List V)
  | .sl none n _ _ => if n = 0 then some (0, []) else none
  | .sl (some (l, o)) n _ _ => if n = 0 then some (0, []) else match cellsAt h l o (n * z) with
    | some cs => some (n, cs)
    | none => none
  | .s s => some (s.size, s.data.toList.map fun b => .i .u8 b.toNat)
  | _ => none
/-- The first n of them. -/
def firstV (h : LH) (z n : Nat) : V → Option (List V)
  | .sl none _ _ _ => some []
  | .sl (some (l, o)) _ _ _ => if n = 0 then some [] else cellsAt h l o (n * z)
  | .s s => some ((s.extract 0 n).data.toList.map fun b => .i .u8 b.toNat)
  | _ => none
def lnV : V → Option Nat
  | .sl _ n _ _ => some n
  | .s s => some s.size
  | _ => none
theorem lnV_sound {x : V} {n : Nat} (h : lnV x = some n) (r : Rho) (w : World) : (Builtin.lenOf (con r x)).run P w = .ok n w := by
  unfold lnV at h
  split at h
  · injection h with h; subst h
    rename_i a n c o
    obtain ⟨b, c', e⟩ := con_sl_is r a n c o
    rw [e]; rfl
  · injection h with h; subst h; rfl
  · cases h
theorem conL_bytes (r : Rho) (l : List UInt8) : conL r (l.map fun b => V.i .u8 b.toNat) = l.map fun b => Value.int .u8 b.toNat := by
  rw [conL_eq, List.map_map]; rfl
theorem firstV_sound (R : RelH P B W r H w) {z n : Nat} {x : V} {cs : List V} (h : firstV H z n x = some cs) : (Builtin.firstCells z n (con r x)).run P w = .ok (conL r cs).toArray w ∧ okL H.next cs := by
  unfold firstV at h
  split at h
  · injection h with h; subst h; exact ⟨rfl, trivial⟩
  · next l o n' c op =>
    have hc : ∃ c', con r (.sl (some (l, o)) n' c op) = .slice (some ((r l).1.add o)) n' c' := ⟨_, rfl⟩
    obtain ⟨c', e⟩ := hc
    rw [e]
    split at h
    · next h0 => injection h with h; subst h; subst h0; exact ⟨by simp [Builtin.firstCells, loadCells, loadCellsFrom, conL], trivial⟩
    · obtain ⟨h1, h2, h3⟩ := cellsAt_sound R h
      have := run_loadCells_list (P := P) w ((r l).1.add o) (conL r cs) h3
      rw [length_conL, h2] at this
      exact ⟨by simp only [Builtin.firstCells, this], h1⟩
  · injection h with h; subst h
    refine ⟨?_, (okL_iff _ _).2 fun v hv => by obtain ⟨b, _, rfl⟩ := List.mem_map.1 hv; trivial⟩
    simp only [con, Builtin.firstCells, Sem.run_pure, conL_bytes]
    congr 1
    apply Array.ext'; simp
  · cases h

def allCell : List V → Bool
  | [] => true
  | v :: l => isCell v && allCell l
theorem allCell_one (r : Rho) : ∀ {l : List V}, allCell l = true → ∀ v ∈ conL r l, v.oneCell' = true
  | [], _, v, hv => by cases hv
  | x :: l, h, v, hv => by
    simp only [allCell, Bool.and_eq_true] at h
    rcases List.mem_cons.1 hv with rfl | hv
    · exact con_oneCell r x h.1
    · exact allCell_one r h.2 v hv
theorem allCell_mem : ∀ {l : List V}, allCell l = true → ∀ v ∈ l, isCell v = true
  | [], _, v, hv => by cases hv
  | x :: l, h, v, hv => by
    simp only [allCell, Bool.and_eq_true] at h
    rcases List.mem_cons.1 hv with rfl | hv
    · exact h.1
    · exact allCell_mem h.2 v hv

/-- No 'append(.., make(..)...)'. -/
def noInt (u : TypeId) : Bool := match tb.und u with
  | some (.int _) | none => false
  | some _ => true

def appV (h : LH) (ts : List TypeId) (s x : V) : Option (V × LH) :=
  match ts, s with
  | [t, u], .sl base len c op => match tb.und t with
    | some (.slice e) => match tb.sz e, tb.bytes e, tb.zero e, lnV x with
      | some z, some by_, some zv, some n =>
        if noInt tb u && decide ((vcells zv).length = z) && decide (0 < by_) then
        match firstV h z n x with
        | none => none
        | some new =>
          if len + n ≤ c then (match base with
            | none => if n = 0 then (match new with | [] => some (.sl none len c op, h) | _ => none) else none
            | some (l, o) => match stL h l (o + len * z) new with
              | some h' => some (.sl (some (l, o)) (len + n) c op, h')
              | none => none)
          else if (len + n) * by_ ≤ 140737488355328 then (match op with
            | false => match firstV h z len s with
              | some old => if old.length = len * z ∧ new.length = n * z then some (.sl (some (h.next, 0)) (len + n) (len + n) true, h.new ⟨old ++ new, e, true⟩) else none
              | none => none
            | true => match base with
              | none => none
              | some (l, o) => match h.get l with
                | none => none
                | some b => if b.own && decide (h.ro ≤ l) && decide (c = len) && decide (o + len * z = b.cells.length) && decide (b.elem = e) && decide (new.length = n * z) && allCell new then
                    some (.sl (some (h.next, 0)) (len + n) (len + n) true, (h.upd l none).new ⟨b.cells.drop o ++ new, e, true⟩) else none)
          else none
        else none
      | _, _, _, _ => none
    | _ => none
  | _, _ => none

theorem run_noInt {u : TypeId} (h : noInt tb u = true) (w : World) : ((do pure ((← underlying u) matches .int _)) : Sem Bool).run P w = .ok false w := by
  unfold noInt at h
  split at h
  · cases h
  · cases h
  · next d hn hu =>
    have hu := tb.undOk _ _ hu
    simp only [Sem.run_bind, run_underlying hu, Result.andThen_ok, Sem.run_pure]


theorem okV_int (n : Nat) (k : IntKind) (m : Int) : okV n (.i k m) := trivial

theorem firstV_cells (H : LH) (z n : Nat) (x : V) (w' : World) (hh : w'.heap = w.heap) (R : RelH P B W r H w) (hb : Below B W w') {cs : List V} (h : firstV H z n x = some cs) :
    (Builtin.firstCells z n (con r x)).run P w' = .ok (conL r cs).toArray w' := (firstV_sound (R.of_heap hb hh) h).1

theorem appV_sound (R : RelH P B W r H w) {ts : List TypeId} {ty : TypeId} {s x v : V} {H' : LH} (hs : okV H.next s) (h : appV tb H ts s x = some (v, H')) :
    ∃ u w', (Builtin.append_ ts.toArray ty #[con r s, con r x]).run P w = .ok u w' ∧ Leaves P B W r H v H' u w' := by
  unfold appV at h
  split at h
  case h_2 => cases h
  next t u base len c op =>
  split at h
  case h_2 => cases h
  next e hu =>
  have hu := tb.undOk _ _ hu
  split at h
  case h_2 => cases h
  next z by_ zv n hz hb hzv hn =>
  split at h
  case isFalse => cases h
  next hc =>
  simp only [Bool.and_eq_true, decide_eq_true_eq] at hc
  obtain ⟨⟨hno, hzl⟩, hby⟩ := hc
  split at h
  case h_1 => cases h
  next new hnew =>
  obtain ⟨i, zz, hi, hzz, hcz, hok, _⟩ := tb.zeroInfo hzv r
  obtain ⟨i2, hi2, hsz⟩ := tb.info hz
  obtain ⟨i3, hi3, hbs⟩ := tb.infoB hb
  rw [hi] at hi2 hi3
  obtain rfl := Option.some.inj hi2
  obtain rfl := Option.some.inj hi3
  obtain ⟨a', c', hcon⟩ := con_sl_is r base len c op
  have hnoI : ∀ w : World, (underlying u).run P w = .ok ((P.underlying u).getD default) w ∧ (((P.underlying u).getD default) matches .int _) = false := fun w => by
    unfold noInt at hno
    split at hno
    · cases hno
    · cases hno
    · next d hd hud =>
      have hud := tb.undOk _ _ hud
      refine ⟨by rw [run_underlying hud, hud]; rfl, ?_⟩
      rw [hud]
      cases d <;> first | rfl | exact (hd _ rfl).elim
  have hlen : ∀ w, (Builtin.lenOf (con r x)).run P w = .ok n w := lnV_sound hn r
  have hfirst : ∀ w', w'.heap = w.heap → Below B W w' → (Builtin.firstCells i.size n (con r x)).run P w' = .ok (conL r new).toArray w' := fun w' hh hbw => by
    rw [hsz]; exact firstV_cells H z n x w' hh R hbw hnew
  have oknew : okL H.next new := (firstV_sound R hnew).2
  -- what is done where there is room
  have fits : ∀ w1, len + n ≤ c' → (∀ b, a' = some b → (storeCells (b.add (len * i.size)) (conL r new)).run P w = .ok () w1) → (a' = none → w1 = w) →
      (Builtin.append_ #[t, u] ty #[con r (.sl base len c op), con r x]).run P w = .ok (.slice a' (len + n) c') w1 := fun w1 hle hst hnn => by
    rw [hcon]
    simp only [Builtin.append_, List.getElem?_toArray, List.getElem?_cons_zero, List.getElem?_cons_succ, Sem.run_bind, run_underlying hu, Result.andThen_ok, sizeOf, run_typeInfo hi, Sem.run_pure, (hnoI w).1]
    have hm := (hnoI w).2
    split
    · next hq => simp only [hq] at hm; cases hm
    · simp only [Sem.run_bind, Sem.run_pure, Result.andThen_ok, Bool.false_eq_true, if_false, hlen, if_pos hle, Bool.not_false, if_true, hfirst w rfl R.below]
      cases a' with
      | none => rw [hnn rfl]; rfl
      | some b => simp only [Sem.run_bind, hst b rfl, Result.andThen_ok, Sem.run_pure]
  have grows : ∀ (old : List Value), ¬ len + n ≤ c' → (len + n) * by_ ≤ 140737488355328 → (∀ w', w'.heap = w.heap → Below B W w' → (Builtin.firstCells i.size len (.slice a' len c')).run P w' = .ok old.toArray w') →
      ∃ nc, len + n ≤ nc ∧ (Builtin.append_ #[t, u] ty #[con r (.sl base len c op), con r x]).run P w = .ok (.slice (some ⟨w.heap.size, 0, none⟩) (len + n) nc) (w.drew.alloc (.cells (old ++ conL r new ++ (Builtin.zeroCells zz.cells (nc - (len + n))).toList).toArray e)) := fun old hle hfit hold => by
    have hcap : Builtin.nextslicecap (len + n) c' * i.bytes ≤ 281474976710656 := by rw [hbs]; exact growslice_fits (by omega) hfit
    refine ⟨Question.cut (.appendCap (len + n) c' e) (w.tape w.drawn (.appendCap (len + n) c' e)), by simp only [Question.cut]; omega, ?_⟩
    rw [hcon]
    simp only [Builtin.append_, List.getElem?_toArray, List.getElem?_cons_zero, List.getElem?_cons_succ, Sem.run_bind, run_underlying hu, Result.andThen_ok, sizeOf, run_typeInfo hi, Sem.run_pure, (hnoI w).1]
    have hm := (hnoI w).2
    have hb0 : ¬ i.bytes = 0 := by omega
    have hd : Below B W w.drew := R.below.drew
    split
    · next hq => simp only [hq] at hm; cases hm
    · simp only [Sem.run_bind, Result.andThen_ok, Bool.false_eq_true, if_false, hlen, if_neg hle, Bool.not_false, if_true, false_or, run_typeInfo hi]
      rw [if_neg (fun h => hb0 h.2)]
      simp only [Sem.run_bind, run_typeInfo hi, Result.andThen_ok]
      rw [if_neg (by omega)]
      simp only [Sem.run_bind, run_choose, Question.forced, Bool.false_eq_true, if_false, Result.andThen_ok, run_askRoom, run_typeInfo hi, World.drew_eq, hold w.drew rfl hd, hfirst w.drew rfl hd, zeroValue, hzz, Sem.run_pure, newRow, run_newObj]
      have harr : old.toArray ++ (conL r new).toArray ++ Builtin.zeroCells zz.cells (Question.cut (.appendCap (len + n) c' e) (w.tape w.drawn (.appendCap (len + n) c' e)) - (len + n)) = (old ++ conL r new ++ (Builtin.zeroCells zz.cells (Question.cut (.appendCap (len + n) c' e) (w.tape w.drawn (.appendCap (len + n) c' e)) - (len + n))).toList).toArray := by
        apply Array.ext'; simp
      rw [← harr]
      rfl
  have hzero : ∀ m, (Builtin.zeroCells zz.cells m).toList.length = m * P.cellsOf e := fun m => by
    rw [cellsOf_of tb hz, ← hzl, Array.length_toList, size_zeroCells, hcz]; simp [length_conL]
  -- a new block
  have newblock : ∀ (old : List V) (H1 : LH) (R1 : RelH P B W r H1 w) (hn1 : H1.next = H.next) (hk : Keeps H H1) (okold : okL H.next old) (nc : Nat) (hnc : len + n ≤ nc),
      Leaves P B W r H (.sl (some (H.next, 0)) (len + n) (len + n) true) (H1.new ⟨old ++ new, e, true⟩) (.slice (some ⟨w.heap.size, 0, none⟩) (len + n) nc)
        (w.drew.alloc (.cells (conL r old ++ conL r new ++ (Builtin.zeroCells zz.cells (nc - (len + n))).toList).toArray e)) := fun old H1 R1 hn1 hk okold nc hnc => by
    have hok' : okL H1.next (old ++ new) := by
      rw [hn1]
      refine (okL_iff _ _).2 fun v hv => ?_
      rcases List.mem_append.1 hv with h' | h'
      · exact (okL_iff _ _).1 okold v h'
      · exact (okL_iff _ _).1 oknew v h'
    have hR := R1.drew.new (old ++ new) (Builtin.zeroCells zz.cells (nc - (len + n))).toList e (nc - (len + n)) (0, 0) hok' (hzero _) (.inl rfl)
    have hsz' : w.drew.heap.size = w.heap.size := rfl
    refine ⟨put r H1.next (⟨w.drew.heap.size, 0, none⟩, nc - (len + n)), ?_, by rw [← hn1]; exact put_ext _ _ _, ?_, ?_, hk.trans (Keeps.new R1.roLe _)⟩
    · rw [← hn1]
      simp only [con, put_at, hsz', if_true]
      rw [show len + n + (nc - (len + n)) = nc by omega]
      rfl
    · show H.next < H1.next + 1
      omega
    · have e2 : conL r (old ++ new) = conL r old ++ conL r new := by simp [conL_eq]
      rw [e2] at hR
      exact hR
  split at h
  · -- there is room
    next hle =>
    split at h
    · -- nil
      split at h
      · next h0 =>
        split at h
        · simp only [Option.some.injEq, Prod.mk.injEq] at h
          obtain ⟨rfl, rfl⟩ := h
          have : a' = none ∧ c' = c := by simp only [con] at hcon; injection hcon with e1 e2 e3; exact ⟨e1.symm, e3.symm⟩
          obtain ⟨rfl, rfl⟩ := this
          subst h0
          exact ⟨_, w, fits w (by omega) (fun b hb => by cases hb) (fun _ => rfl), r, rfl, Ext.refl _ _, trivial, R, Keeps.refl _⟩
        · cases h
      · cases h
    · next l o =>
      split at h
      · next H1 hst =>
        simp only [Option.some.injEq, Prod.mk.injEq] at h
        obtain ⟨rfl, rfl⟩ := h
        obtain ⟨w1, h1, h2, h3, h4⟩ := stL_sound (i := 0) (a := ((r l).1.add o).add (len * i.size)) R oknew hst (fun j => by rw [Nat.zero_add, add_add, add_add, hsz, Nat.add_assoc])
        have hcc : a' = some ((r l).1.add o) ∧ c' = (if op then c + (r l).2 else c) := by simp only [con] at hcon; injection hcon with e1 e2 e3; exact ⟨e1.symm, e3.symm⟩
        obtain ⟨rfl, hc'⟩ := hcc
        have hle' : len + n ≤ c' := by rw [hc']; split <;> omega
        refine ⟨_, w1, fits w1 hle' (fun b hb => by injection hb with hb; subst hb; exact h1) (fun h => by cases h), r, ?_, Ext.refl _ _, ?_, h2, h4⟩
        · rw [hc']; rfl
        · have : l < H.next := hs
          rw [← h3] at this
          exact this
      · cases h
  · next hle =>
    split at h
    case isFalse => cases h
    next hfit =>
    split at h
    · -- the capacity is known: a new block
      next =>
      split at h
      case h_2 => cases h
      next old hold =>
      split at h
      case isFalse => cases h
      next hl =>
      simp only [Option.some.injEq, Prod.mk.injEq] at h
      obtain ⟨rfl, rfl⟩ := h
      have hc' : c' = c := by
        rcases base with _ | ⟨l, o⟩
        · simp only [con] at hcon; injection hcon with e1 e2 e3; exact e3.symm
        · simp only [con] at hcon; injection hcon with e1 e2 e3; simpa using e3.symm
      obtain ⟨nc, h1, h2⟩ := grows (conL r old) (by omega) hfit (fun w' hh hbw => by rw [← hcon, hsz]; exact firstV_cells H z len _ w' hh R hbw hold)
      exact ⟨_, _, h2, newblock old H R rfl (Keeps.refl _) (firstV_sound R hold).2 nc h1⟩
    · -- what stands behind is not known
      next =>
      split at h
      case h_1 => cases h
      next l o =>
      split at h
      case h_1 => cases h
      next b hb' =>
      split at h
      case isFalse => cases h
      next hcond =>
      simp only [Bool.and_eq_true, decide_eq_true_eq] at hcond
      obtain ⟨⟨⟨⟨⟨⟨hown, hro⟩, hcl⟩, hend⟩, helem⟩, hnl⟩, hall⟩ := hcond
      simp only [Option.some.injEq, Prod.mk.injEq] at h
      obtain ⟨rfl, rfl⟩ := h
      have hcc : a' = some ((r l).1.add o) ∧ c' = c + (r l).2 := by simp only [con] at hcon; injection hcon with e1 e2 e3; exact ⟨e1.symm, by simpa using e3.symm⟩
      obtain ⟨rfl, hc'⟩ := hcc
      obtain ⟨k, pre, ext, fr, g1, g2, g3, g4, g5⟩ := R.own l b hb' hown
      have hadd : (r l).1.add o = ⟨k, pre.length + o, none⟩ := by rw [g1, add_none]
      have okb := R.ok l b hb'
      have okd : okL H.next (b.cells.drop o) := (okL_iff _ _).2 fun v hv => (okL_iff _ _).1 okb v (List.mem_of_mem_drop hv)
      by_cases hroom : len + n ≤ c'
      · -- it lies where it was
        obtain ⟨w1, s1, s2, s3, s4, s5, s6, s7⟩ := run_storeCells_blk (P := P) (conL r new) (pre.length + b.cells.length) 0 (pre ++ conL r b.cells ++ ext) w g3
          (fun j hj => by simp only [List.length_append, length_conL] at hj; omega)
          (by
            have : n * z ≤ (r l).2 * z := Nat.mul_le_mul_right _ (by omega)
            rw [helem, cellsOf_of tb hz] at g4
            simp only [List.length_append, length_conL, hnl]; omega)
          (allCell_one r hall)
        have hrun := fits w1 hroom (fun b' hb'' => by
          injection hb'' with hb''
          subst hb''
          rw [hadd, hsz, add_none, show pre.length + o + len * z = pre.length + b.cells.length by omega]
          exact s1) (fun h => by cases h)
        refine ⟨_, w1, hrun, put r H.next (⟨k, pre.length + o, none⟩, (r l).2 - n), ?_, put_ext _ _ _, ?_, ?_, ?_⟩
        · simp only [con, put_at, if_true]
          rw [hadd, show len + n + ((r l).2 - n) = c' by omega]
          rfl
        · show H.next < H.next + 1
          omega
        · have hzc := cellsOf_of tb hz
          rw [helem, hzc] at g4
          have hnn : n * z ≤ (r l).2 * z := Nat.mul_le_mul_right _ (by omega)
          have hocl : o ≤ b.cells.length := by omega
          have hb1 : Below B W w1 := R.below.trans ⟨s4, s5, s6, by rw [s7]; exact Nat.le_refl _, fun j hj => s3 j (fun e => by subst e; exact absurd hj (by assumption))⟩
          have hset : setL (pre ++ conL r b.cells ++ ext) (pre.length + b.cells.length + 0) (conL r new) = (pre ++ conL r (b.cells.take o)) ++ conL r (b.cells.drop o ++ new) ++ ext.drop (n * z) := by
            rw [setL_eq _ _ _ (by simp only [List.length_append, length_conL, hnl]; omega), Nat.add_zero]
            have e1 : (pre ++ conL r b.cells ++ ext).take (pre.length + b.cells.length) = pre ++ conL r b.cells := by
              rw [List.take_append_of_le_length (by simp [length_conL]), List.take_of_length_le (by simp [length_conL])]
            have e2 : (pre ++ conL r b.cells ++ ext).drop (pre.length + b.cells.length + (conL r new).length) = ext.drop (n * z) := by
              rw [List.drop_append, length_conL, hnl]
              rw [List.drop_of_length_le (by simp only [List.length_append, length_conL]; omega), List.nil_append]
              congr 1
              simp only [List.length_append, length_conL]; omega
            rw [e1, e2]
            simp only [conL_eq, List.map_append, List.append_assoc]
            rw [← List.append_assoc ((b.cells.take o).map _), ← List.map_append, List.take_append_drop]
          rw [hset] at s2
          have okc : okL H.next (b.cells.drop o ++ new) := (okL_iff _ _).2 fun v hv => by
            rcases List.mem_append.1 hv with h' | h'
            · exact (okL_iff _ _).1 okd v h'
            · exact (okL_iff _ _).1 oknew v h'
          refine (R.kill l).adopt (b := ⟨b.cells.drop o ++ new, e, true⟩) (x := (⟨k, pre.length + o, none⟩, (r l).2 - n)) hb1 g2 s3 ?_ rfl rfl okc ?_
          · intro l' b' hl' ho' hk'
            rw [LH.get_upd] at hl'
            split at hl'
            · cases hl'
            · next hne => exact hne (R.inj l' l b' b hl' ho' hb' hown (by rw [hk', g1]))
          · refine ⟨k, pre ++ conL r (b.cells.take o), ext.drop (n * z), fr, ?_, g2, ?_, ?_, ?_⟩
            · show (put r H.next _ H.next).1 = _
              rw [put_at]
              simp only [List.length_append, length_conL, List.length_take, Nat.min_eq_left hocl]
            · show w1.heap[k]? = some (.cells (pre ++ conL r (b.cells.take o) ++ conL (put r H.next (⟨k, pre.length + o, none⟩, (r l).2 - n)) (b.cells.drop o ++ new) ++ ext.drop (n * z)).toArray e fr)
              rw [conL_ext (put_ext r H.next _) _ okc, s2, helem]
            · show _ = (put r H.next _ H.next).2 * _
              rw [put_at, hzc, List.length_drop, g4, Nat.sub_mul]
            · simp only [List.length_append, length_conL, List.length_take, Nat.min_eq_left hocl, List.length_drop, hnl]
              omega
        · exact (Keeps.upd hro _).trans (Keeps.new (show (H.upd l none).ro ≤ (H.upd l none).next from R.roLe) _)
      · -- it moves
        have hold : ∀ w', w'.heap = w.heap → Below B W w' → (Builtin.firstCells i.size len (.slice (some ((r l).1.add o)) len c')).run P w' = .ok (conL r (b.cells.drop o)).toArray w' := fun w' hh hbw => by
          have R' := R.of_heap hbw hh
          have hl : (b.cells.drop o).length = len * z := by rw [List.length_drop]; omega
          have := run_loadCells_list (P := P) w' ((r l).1.add o) (conL r (b.cells.drop o)) (fun j v hj => by
            rw [getElem?_conL] at hj
            obtain ⟨y, hy, rfl⟩ := Option.map_eq_some_iff.1 hj
            rw [List.getElem?_drop] at hy
            rw [add_add]
            exact R'.cell hb' hy)
          rw [length_conL, hl] at this
          simp only [Builtin.firstCells, hsz, this]
        obtain ⟨nc, h1, h2⟩ := grows (conL r (b.cells.drop o)) hroom hfit hold
        exact ⟨_, _, h2, newblock (b.cells.drop o) (H.upd l none) (R.kill l) rfl (Keeps.upd hro _) okd nc h1⟩

end

section
variable {P : Program} (tb : Tb P) {B : Nat → Prop} {W w : World} {r : Rho} {H : LH}

def cpV (h : LH) (ts : List TypeId) (d x : V) : Option (V × LH) :=
  match ts, d with
  | [t, _], .sl base len _ _ => match tb.und t with
    | some (.slice e) => match tb.sz e, lnV x with
      | some z, some m => match firstV h z (Nat.min m len) x with
        | some cs => match base with
          | none => some (.i .i64 (Nat.min m len), h)
          | some (l, o) => match stL h l o cs with
            | some h' => some (.i .i64 (Nat.min m len), h')
            | none => none
        | none => none
      | _, _ => none
    | _ => none
  | _, _ => none
theorem cpV_sound (R : RelH P B W r H w) {ts : List TypeId} {ty : TypeId} {d x v : V} {H' : LH} (h : cpV tb H ts d x = some (v, H')) :
    ∃ u w', (Builtin.copy_ ts.toArray ty #[con r d, con r x]).run P w = .ok u w' ∧ Leaves P B W r H v H' u w' := by
  unfold cpV at h
  split at h
  case h_2 => cases h
  next t _ base len c op =>
  split at h
  case h_2 => cases h
  next e hu =>
  have hu := tb.undOk _ _ hu
  split at h
  case h_2 => cases h
  next z m hz hm =>
  split at h
  case h_2 => cases h
  next cs hcs =>
  obtain ⟨hf, hok⟩ := firstV_sound R hcs
  obtain ⟨a', c', hcon⟩ := con_sl_is r base len c op
  have hl := lnV_sound (P := P) hm r w
  split at h
  · simp only [Option.some.injEq, Prod.mk.injEq] at h
    obtain ⟨rfl, rfl⟩ := h
    have : a' = none := by simp only [con] at hcon; injection hcon with e1 e2 e3; exact e1.symm
    subst this
    refine ⟨.int .i64 (Nat.min m len), w, ?_, r, rfl, Ext.refl _ _, trivial, R, Keeps.refl _⟩
    rw [hcon]
    simp only [Builtin.copy_, List.getElem?_toArray, List.getElem?_cons_zero, List.getElem?_cons_succ, Sem.run_bind, run_underlying hu, Result.andThen_ok, hl, run_sizeOf tb hz, hf, Sem.run_pure]
    rfl
  · next l o =>
    split at h
    case h_2 => cases h
    next H1 hst =>
    simp only [Option.some.injEq, Prod.mk.injEq] at h
    obtain ⟨rfl, rfl⟩ := h
    obtain ⟨w1, h1, h2, h3, h4⟩ := stL_sound (i := 0) (a := (r l).1.add o) R hok hst (fun j => by rw [Nat.zero_add, add_add])
    have : a' = some ((r l).1.add o) := by simp only [con] at hcon; injection hcon with e1 e2 e3; exact e1.symm
    subst this
    refine ⟨.int .i64 (Nat.min m len), w1, ?_, r, rfl, Ext.refl _ _, trivial, h2, h4⟩
    rw [hcon]
    simp only [Builtin.copy_, List.getElem?_toArray, List.getElem?_cons_zero, List.getElem?_cons_succ, Sem.run_bind, run_underlying hu, Result.andThen_ok, hl, run_sizeOf tb hz, hf, h1, Sem.run_pure]
    rfl

/-- The bytes of a row. -/
def bytesV : List V → Option (List Int)
  | [] => some []
  | .i .u8 n :: l => match bytesV l with | some ns => some (n :: ns) | none => none
  | _ => none
theorem bytesV_sound (r : Rho) : ∀ {l : List V} {ns : List Int}, bytesV l = some ns → conL r l = ns.map (Value.int .u8)
  | [], ns, h => by simp only [bytesV] at h; injection h with h; subst h; rfl
  | v :: l, ns, h => by
    unfold bytesV at h
    split at h
    · next e => cases e
    · next n l' e =>
      injection e with e1 e2; subst e1; subst e2
      split at h
      · next ns' hn => injection h with h; subst h; simp [conL, con, bytesV_sound r hn]
      · cases h
    · cases h
def strOf (ns : List Int) : ByteArray := ns.foldl (fun r n => r.push (UInt8.ofNat n.toNat)) ByteArray.empty

/-- string(b). -/
def sbV (h : LH) (src dst : TypeId) (x : V) : Option V :=
  match tb.und src, tb.und dst with
  | some (.slice e), some .string => match tb.und e, x with
    | some (.int .u8), .sl none _ _ _ => some (.s .empty)
    | some (.int .u8), .sl (some (l, o)) n _ _ => if n = 0 then some (.s .empty) else match cellsAt h l o n with
      | some cs => match bytesV cs with | some ns => some (.s (strOf ns)) | none => none
      | none => none
    | _, _ => none
  | _, _ => none
theorem sbV_sound (R : RelH P B W r H w) {src dst : TypeId} {x v : V} (h : sbV tb H src dst x = some v) : (convert src dst (con r x)).run P w = .ok (con r v) w ∧ ∀ n, okV n v := by
  unfold sbV at h
  split at h
  · next e hs hd =>
    have hs := tb.undOk _ _ hs
    have hd := tb.undOk _ _ hd
    split at h
    · next he =>
      have he := tb.undOk _ _ he
      injection h with h; subst h
      refine ⟨?_, fun _ => trivial⟩
      simp only [con]
      rw [run_convert_bytes_string w _ _ e _ _ _ hs he hd]; rfl
    · next l o n c op he =>
      have he := tb.undOk _ _ he
      have hc : ∃ c', con r (.sl (some (l, o)) n c op) = .slice (some ((r l).1.add o)) n c' := ⟨_, rfl⟩
      obtain ⟨c', hc⟩ := hc
      rw [hc, run_convert_bytes_string w _ _ e _ _ _ hs he hd]
      split at h
      · next h0 =>
        injection h with h; subst h; subst h0
        refine ⟨?_, fun _ => trivial⟩
        rw [run_bytesToString w _ 0 c' [] (by simp [loadCells, loadCellsFrom])]; rfl
      · split at h
        · next cs hcs =>
          split at h
          · next ns hns =>
            injection h with h; subst h
            obtain ⟨h1, h2, h3⟩ := cellsAt_sound R hcs
            have := run_loadCells_list (P := P) w ((r l).1.add o) (conL r cs) h3
            rw [length_conL, h2, bytesV_sound r hns] at this
            exact ⟨by rw [run_bytesToString w _ n c' ns this]; rfl, fun _ => trivial⟩
          · cases h
        · cases h
    · cases h
  · cases h

theorem freeze_alloc (w : World) (c : Array Value) (e : TypeId) : (w.alloc (.cells c e)).freeze ⟨w.heap.size, c.size, none⟩ 1 = w.alloc (.cells c e (c.size, c.size + 1)) := by
  unfold World.freeze World.alloc
  rw [if_neg (by omega)]
  simp only
  congr 1
  apply Array.ext'
  simp only [Array.toList_modify, Array.toList_push]
  apply List.ext_getElem?
  intro i
  rw [List.getElem?_modify]
  by_cases hi : i = w.heap.size
  · subst hi
    have : w.heap.size = w.heap.toList.length := by simp
    rw [this, List.getElem?_concat_length, List.getElem?_concat_length]
    simp
  · have hne : ¬ w.heap.size = i := fun h => hi h.symm
    simp only [hne, if_false, Option.map_eq_map, Option.map_id']
    by_cases hl : i < w.heap.size
    · rw [List.getElem?_append_left (by simpa using hl), List.getElem?_append_left (by simpa using hl)]
    · rw [List.getElem?_eq_none (by simp; omega), List.getElem?_eq_none (by simp; omega)]
theorem run_markStringish_new (w : World) (c : Array Value) (e : TypeId) : (markStringish ⟨w.heap.size, 0, none⟩).run P (w.alloc (.cells c e)) = .ok () (w.alloc (.cells c e (c.size, c.size + 1))) := by
  have : (w.alloc (.cells c e)).shape? w.heap.size = some (e, c.size) := by
    simp only [World.shape?, World.alloc, Array.getElem?_push_size]
  simp only [markStringish, Sem.run_bind, run_shape, this, Result.andThen_ok, run_freeze, freeze_alloc]

/-- []byte(s). -/
def bsV (h : LH) (src dst : TypeId) (x : V) : Option (V × LH) :=
  match tb.und src, tb.und dst, x with
  | some .string, some (.slice e), .s s => match tb.und e, tb.sz e with
    | some (.int .u8), some 1 => some (.sl (some (h.next, 0)) s.size s.size true, h.new ⟨s.data.toList.map fun b => .i .u8 b.toNat, e, true⟩)
    | _, _ => none
  | _, _, _ => none
theorem bsV_sound (R : RelH P B W r H w) {src dst : TypeId} {x v : V} {H' : LH} (h : bsV tb H src dst x = some (v, H')) :
    ∃ u w', (convert src dst (con r x)).run P w = .ok u w' ∧ Leaves P B W r H v H' u w' := by
  unfold bsV at h
  split at h
  case h_2 => cases h
  next e s hs hd =>
  have hs := tb.undOk _ _ hs
  have hd := tb.undOk _ _ hd
  split at h
  case h_2 => cases h
  next he hz =>
  have he := tb.undOk _ _ he
  simp only [Option.some.injEq, Prod.mk.injEq] at h
  obtain ⟨rfl, rfl⟩ := h
  have okc : okL H.next (s.data.toList.map fun b => V.i .u8 b.toNat) := (okL_iff _ _).2 fun v hv => by obtain ⟨b, _, rfl⟩ := List.mem_map.1 hv; trivial
  have hsz : s.data.toList.length = s.size := by rw [Array.length_toList]; rfl
  let cap := Question.cut (.appendCap s.size 0 e) (w.tape w.drawn (.appendCap s.size 0 e))
  have hcap : s.size ≤ cap := by simp only [cap, Question.cut]; omega
  let n := cap - s.size
  have hR := R.drew.new (s.data.toList.map fun b => .i .u8 b.toNat) (List.replicate n (.int .u8 0)) e n (cap, cap + 1) okc (by rw [cellsOf_of tb hz]; simp) (.inr (by simp only [List.length_map, hsz, List.length_replicate, n]; omega))
  have hC : (conL r (s.data.toList.map fun b => V.i .u8 b.toNat) ++ List.replicate n (Value.int .u8 0)).toArray = (s.data.map fun b => Value.int .u8 b.toNat) ++ Array.replicate n (.int .u8 0) := by
    rw [conL_bytes]; apply Array.ext'; simp
  rw [hC] at hR
  refine ⟨.slice (some ⟨w.heap.size, 0, none⟩) s.size cap, _, ?_, put r H.next (⟨w.drew.heap.size, 0, none⟩, n), ?_, put_ext _ _ _, Nat.lt_succ_self _, hR, Keeps.new R.roLe _⟩
  · have hm := run_markStringish_new (P := P) w.drew ((s.data.map fun b : UInt8 => Value.int .u8 b.toNat) ++ Array.replicate n (Value.int .u8 0)) e
    have hcs : ((s.data.map fun b : UInt8 => Value.int .u8 b.toNat) ++ Array.replicate n (Value.int .u8 0)).size = cap := by
      have : s.data.size = s.size := rfl
      simp only [Array.size_append, Array.size_map, Array.size_replicate, n, this]; omega
    rw [hcs] at hm
    have hq : (choose (.appendCap s.size 0 e)).run P w = .ok cap w.drew := by
      simp only [run_choose, Question.forced, Bool.false_eq_true, if_false]; rfl
    have hn : (newObj (.cells ((s.data.map fun b : UInt8 => Value.int .u8 b.toNat) ++ Array.replicate n (Value.int .u8 0)) e)).run P w.drew = .ok w.heap.size (w.drew.alloc (.cells ((s.data.map fun b : UInt8 => Value.int .u8 b.toNat) ++ Array.replicate n (Value.int .u8 0)) e)) := rfl
    have hm' : (markStringish ⟨w.heap.size, 0, none⟩).run P (w.drew.alloc (.cells ((s.data.map fun b : UInt8 => Value.int .u8 b.toNat) ++ Array.replicate n (Value.int .u8 0)) e)) = .ok () (w.drew.alloc (.cells ((s.data.map fun b : UInt8 => Value.int .u8 b.toNat) ++ Array.replicate n (Value.int .u8 0)) e (cap, cap + 1))) := hm
    simp only [con, convert, Sem.run_bind, run_underlying hs, run_underlying hd, run_underlying he, Result.andThen_ok, Conv.stringToBytes, hq, newRow, Sem.run_pure]
    have hnn : cap - s.size = n := rfl
    rw [hnn, hn]
    simp only [Result.andThen_ok, hm']
  · simp only [con, put_at, if_true]
    rw [show s.size + n = cap by omega]; rfl

/-- The bytes of a string or a row. -/
def rowV (h : LH) : V → Option (List UInt8)
  | .s s => some s.data.toList
  | .sl none _ _ _ => some []
  | .sl (some (l, o)) n _ _ => if n = 0 then some [] else match cellsAt h l o n with
    | some cs => match bytesV cs with
      | some ns => some (ns.map fun n => n.toNat.toUInt8)
      | none => none
    | none => none
  | _ => none
theorem run_loadBytes (w : World) : ∀ (ns : List Int) (a : Addr) (acc : ByteArray), (∀ j n, ns[j]? = some n → w.cell? (a.add j) = some (.int .u8 n)) →
    (Extern.Bytes.loadBytes a ns.length acc).run P w = .ok ⟨acc.data ++ (ns.map fun n => n.toNat.toUInt8).toArray⟩ w
  | [], a, acc, _ => by simp [Extern.Bytes.loadBytes]
  | n :: ns, a, acc, h => by
    have h0 := h 0 n rfl
    have e0 : a.add 0 = a := by simp [Addr.add]
    rw [e0] at h0
    have ih := run_loadBytes w ns (a.add 1) (acc.push n.toNat.toUInt8) (fun j m hj => by rw [add_add, Nat.add_comm]; exact h (j + 1) m (by simpa using hj))
    simp only [List.length_cons, Extern.Bytes.loadBytes, Sem.run_bind, run_load, h0, Result.andThen_ok, ih]
    congr 2
    apply Array.ext'
    simp [ByteArray.push]
theorem rowV_sound (R : RelH P B W r H w) {x : V} {bs : List UInt8} (h : rowV H x = some bs) : ∃ s, (Extern.Bytes.bytesOf (con r x)).run P w = .ok s w ∧ s.data.toList = bs := by
  unfold rowV at h
  split at h
  · next s => injection h with h; subst h; exact ⟨s, rfl, rfl⟩
  · injection h with h; subst h; exact ⟨.empty, rfl, rfl⟩
  · next l o n c op =>
    have hc : ∃ c', con r (.sl (some (l, o)) n c op) = .slice (some ((r l).1.add o)) n c' := ⟨_, rfl⟩
    obtain ⟨c', hc⟩ := hc
    rw [hc]
    split at h
    · next h0 => injection h with h; subst h; subst h0; exact ⟨.empty, rfl, rfl⟩
    · split at h
      · next cs hcs =>
        split at h
        · next ns hns =>
          injection h with h; subst h
          obtain ⟨h1, h2, h3⟩ := cellsAt_sound R hcs
          rw [bytesV_sound r hns] at h3
          have hl : n = ns.length := by rw [← h2, ← length_conL r cs, bytesV_sound r hns]; simp
          have := run_loadBytes (P := P) w ns ((r l).1.add o) .empty (fun j m hj => h3 j _ (by rw [List.getElem?_map, hj]; rfl))
          refine ⟨⟨ByteArray.empty.data ++ (ns.map fun n => n.toNat.toUInt8).toArray⟩, ?_, by rw [Array.toList_append]; rfl⟩
          rw [← this, ← hl]; rfl
        · cases h
      · cases h
  · cases h
def countB (c : UInt8) : List UInt8 → Nat
  | [] => 0
  | b :: l => (if b == c then 1 else 0) + countB c l
theorem foldl_count (c : UInt8) : ∀ (l : List UInt8) (n : Int), l.foldl (fun (n : Int) x => if x == c then n + 1 else n) n = n + countB c l
  | [], n => by simp [countB]
  | b :: l, n => by
    simp only [List.foldl_cons, countB]
    rw [foldl_count c l]
    split <;> omega
def cntV (h : LH) : List V → Option V
  | [x, .i .u8 n] => match rowV h x with
    | some bs => some (.i .i64 (countB n.toNat.toUInt8 bs))
    | none => none
  | _ => none
theorem cntV_sound (R : RelH P B W r H w) {vs : List V} {v : V} (h : cntV H vs = some v) : (Extern.BytealgCount.count (conL r vs).toArray).run P w = .ok (con r v) w ∧ ∀ n, okV n v := by
  unfold cntV at h
  split at h
  · next x n =>
    split at h
    · next bs hbs =>
      injection h with h; subst h
      obtain ⟨s, h1, h2⟩ := rowV_sound R hbs
      refine ⟨?_, fun _ => trivial⟩
      change Sem.run P (do
        let b ← Extern.Bytes.bytesOf (con r x)
        let c' ← Extern.Bytes.asByte (.int .u8 n)
        pure (goInt (b.foldl (fun n x => if x == c' then n + 1 else n) (0 : Nat)))) w = _
      simp only [Sem.run_bind, h1, Result.andThen_ok, Extern.Bytes.asByte, Sem.run_pure, Lib.foldl_data, foldl_count, h2]
      simp [goInt, con]
    · cases h
  · cases h

end

section
variable {P : Program} (tb : Tb P) {B : Nat → Prop} {W w : World} {r : Rho} {H : LH} {e : Operand → Option V} {ev : Operand → Value}

/-- What is read: a load, string(b). -/
def evR (e : Operand → Option V) (h : LH) : Op → Option V
  | .load t x => match e x with | some v => ldV tb h t v | none => none
  | .convert s d x => match e x with | some v => sbV tb h s d v | none => none
  | .call ⟨.value f, args, _⟩ => match e f with
    | some (.fn g []) => match tb.cnt g with
      | true => match evLs e args.toList with
        | some vs => cntV h vs
        | none => none
      | false => none
    | _ => none
  | _ => none
theorem evR_sound {o : Oper} {v : V} (R : RelH P B W r H w) (hE : Holds r H.next e ev) (h : evR tb e H o.op = some v) : (execOp ev o).run P w = .ok (.value (con r v)) w ∧ okV H.next v := by
  unfold execOp
  unfold evR at h
  split at h
  · next t x hop =>
    rw [hop]; simp only
    split at h
    · next a ha => obtain ⟨h1, h2⟩ := hE x _ ha; obtain ⟨h3, h4⟩ := ldV_sound tb R h; exact ⟨by simp only [h1, Sem.run_bind, h3, Result.andThen_ok, Sem.run_pure], h4⟩
    · cases h
  · next s d x hop =>
    rw [hop]; simp only
    split at h
    · next a ha => obtain ⟨h1, h2⟩ := hE x _ ha; obtain ⟨h3, h4⟩ := sbV_sound tb R h; exact ⟨by simp only [h1, Sem.run_bind, h3, Result.andThen_ok, Sem.run_pure], h4 _⟩
    · cases h
  · next f args ts hop =>
    rw [hop]; simp only
    split at h
    · next g hf =>
      split at h
      · next hc =>
        split at h
        · next vs hl =>
          obtain ⟨g1, _⟩ := hE f _ hf
          obtain ⟨g3, g4⟩ := evLs_sound hE hl
          obtain ⟨g5, g6⟩ := cntV_sound R h
          have ha : args.map ev = (conL r vs).toArray := by rw [← g3]; apply Array.ext'; simp
          refine ⟨?_, g6 _⟩
          simp only [resolve, g1, con, conL, ha, Deferred.ofValue, Sem.run_bind, Sem.run_pure, Result.andThen_ok, invoke, Array.empty_append, Array.append_empty]
          rw [tb.cntOk g _ w hc, g5]; rfl
        · cases h
      · cases h
    · cases h
  · cases h

/-- An empty cut at the very end of a row whose capacity is open: where it lies depends on what was drawn; so it gets a number of its own. -/
def slE (h : LH) (t : TypeId) (x : V) (lo hi : Option V) : Option (V × LH) :=
  match tb.und t, x with
  | some (.slice e), .sl (some _) len cap true => match bnds len cap lo hi none, tb.sz e with
    | some (l, hh, m), some _ => if l = m ∧ hh = l then some (.sl (some (h.next, 0)) 0 0 true, h.new ⟨[], e, false⟩) else none
    | _, _ => none
  | _, _ => none
theorem RelH.newE (R : RelH P B W r H w) (t : TypeId) (x : Addr × Nat) : RelH P B W (put r H.next x) (H.new ⟨[], t, false⟩) w := by
  have he := put_ext r H.next x
  refine ⟨R.base, R.below, Nat.le_succ_of_le R.roLe, ?_, ?_, ?_, ?_, ?_⟩
  · intro l b hl
    rw [LH.get_new] at hl
    show l < H.next + 1
    split at hl
    · omega
    · have := R.lt l b hl; omega
  · intro l b hl
    rw [LH.get_new] at hl
    show okL (H.next + 1) _
    split at hl
    · injection hl with hl; subst hl; trivial
    · exact okL_mono (Nat.le_succ _) _ (R.ok l b hl)
  · intro l b hl ho
    rw [LH.get_new] at hl
    split at hl
    · injection hl with hl; subst hl; exact fun j v hj => by simp at hj
    · exact (R.ro l b hl ho).ext (R.lt l b hl) (R.ok l b hl) he (fun _ _ => rfl)
  · intro l b hl ho
    rw [LH.get_new] at hl
    split at hl
    · injection hl with hl; subst hl; cases ho
    · exact (R.own l b hl ho).ext (R.lt l b hl) (R.ok l b hl) he rfl
  · intro l l' b b' hl ho hl' ho' e
    rw [LH.get_new] at hl hl'
    split at hl
    · injection hl with hl; subst hl; cases ho
    · split at hl'
      · injection hl' with hl'; subst hl'; cases ho'
      · next h1 h2 =>
        rw [put_ne _ _ _ _ h1, put_ne _ _ _ _ h2] at e
        exact R.inj l l' b b' hl ho hl' ho' e
theorem slE_sound {t : TypeId} {x v : V} {lo hi : Option V} {H' : LH} (R : RelH P B W r H w) (h : slE tb H t x lo hi = some (v, H')) :
    ∃ u, (Instr.sliceAt t (con r x) (lo.map (con r)) (hi.map (con r)) none).run P w = .ok u w ∧ Leaves P B W r H v H' u w := by
  unfold slE at h
  split at h
  · next e a len cap hu =>
    have hu := tb.undOk _ _ hu
    split at h
    · next l hh m z hb hz =>
      split at h
      · next hlm =>
        simp only [Option.some.injEq, Prod.mk.injEq] at h
        obtain ⟨rfl, rfl⟩ := h
        have hel : P.elem t = e := by simp [Program.elem, hu]
        obtain ⟨b, o⟩ := a
        have hbs := bnds_sound (P := P) (ex := (r b).2) hb true r w
        have hb1 := hbs.1
        simp only [Option.map_none, Option.isSome_none, Bool.false_eq_true, if_false] at hb1
        obtain ⟨rfl, rfl⟩ := hlm
        have hexe : ∃ A : Addr, (if hh + (r b).2 = hh then some ((r b).1.add o) else some (((r b).1.add o).add (hh * z))) = some A := by split <;> exact ⟨_, rfl⟩
        obtain ⟨A, hA⟩ := hexe
        refine ⟨.slice (some A) 0 (r b).2, ?_, put r H.next (A, (r b).2), ?_, put_ext _ _ _, Nat.lt_succ_self _, R.newE e (A, (r b).2), Keeps.new R.roLe _⟩
        · simp only [con, if_true]
          rw [run_sliceAt_slice w t _ _ _ _ (by rw [hel]; exact hu)]
          simp [Instr.slice, run_underlying hu, hb1, run_sizeOf tb hz, ← hA]
        · simp only [con, put_at, if_true, Nat.zero_add]
          rfl
      · cases h
    · cases h
  · cases h

/-- What makes or writes memory. -/
def evH (e : Operand → Option V) (h : LH) : Op → Option (V × LH)
  | .alloc t => allocV tb h t
  | .box t x => match e x with
    | some v => some (.p (some (h.next, 0)), h.new ⟨vcells v, t, true⟩)
    | none => none
  | .buildSlice t len ps => match evPs e ps.toList with
    | some l => bdSl tb h t len l
    | none => none
  | .store t x y => match e x, e y with
    | some a, some v => match stV tb h t a v with
      | some h' => some (.tup [], h')
      | none => none
    | _, _ => none
  | .makeSlice t l c => match e l, e c with
    | some a, some b => mkSl tb h t a b
    | _, _ => none
  | .slice t x l hi none => match e x, evOp? e l, evOp? e hi with
    | some v, some l', some hi' => slE tb h t v l' hi'
    | _, _, _ => none
  | .convert s d x => match e x with
    | some v => bsV tb h s d v
    | none => none
  | .call ⟨.builtin .append, args, ts⟩ => match evLs e args.toList with
    | some [s, x] => appV tb h ts.toList s x
    | _ => none
  | .call ⟨.builtin .copy, args, ts⟩ => match evLs e args.toList with
    | some [s, x] => cpV tb h ts.toList s x
    | _ => none
  | _ => none

/-- What an operation answers: a value, or nothing. -/
def Gives (P : Program) (s : Sem Next) (w : World) (u : Value) (w' : World) : Prop := s.run P w = .ok (.value u) w' ∨ (s.run P w = .ok .skip w' ∧ u = undef)

theorem evH_sound {o : Oper} {v : V} {H' : LH} (R : RelH P B W r H w) (hE : Holds r H.next e ev) (h : evH tb e H o.op = some (v, H')) :
    ∃ u w', Gives P (execOp ev o) w u w' ∧ Leaves P B W r H v H' u w' := by
  unfold execOp
  unfold evH at h
  split at h
  · next t hop =>
    rw [hop]; simp only
    obtain ⟨u, w', h1, h2⟩ := allocV_sound tb R h
    exact ⟨u, w', .inl (by simp only [Sem.run_bind, h1, Result.andThen_ok, Sem.run_pure]), h2⟩
  · next t x hop =>
    rw [hop]; simp only
    split at h
    · next a ha =>
      simp only [Option.some.injEq, Prod.mk.injEq] at h
      obtain ⟨rfl, rfl⟩ := h
      obtain ⟨g1, g2⟩ := hE x _ ha
      obtain ⟨u, w', h1, h2⟩ := boxV_sound R g2 (t := t)
      exact ⟨u, w', .inl (by simp only [g1, Sem.run_bind, h1, Result.andThen_ok, Sem.run_pure]), h2⟩
    · cases h
  · next t len ps hop =>
    rw [hop]; simp only
    split at h
    · next l hl =>
      obtain ⟨g1, g2⟩ := evPs_sound hE hl
      obtain ⟨u, w', h1, h2⟩ := bdSl_sound tb R g2 h
      have : (ps.map fun (i, x) => (i, ev x)) = (l.map fun x => (x.1, con r x.2)).toArray := by rw [← g1]; apply Array.ext'; simp
      exact ⟨u, w', .inl (by simp only [this, Sem.run_bind, h1, Result.andThen_ok, Sem.run_pure]), h2⟩
    · cases h
  · next t x y hop =>
    rw [hop]; simp only
    split at h
    · next a b ha hb =>
      split at h
      · next H1 hst =>
        simp only [Option.some.injEq, Prod.mk.injEq] at h
        obtain ⟨rfl, rfl⟩ := h
        obtain ⟨g1, _⟩ := hE x _ ha
        obtain ⟨g3, g4⟩ := hE y _ hb
        obtain ⟨w', h1, h2, h3, h4⟩ := stV_sound tb R g4 hst
        exact ⟨undef, w', .inr ⟨by simp only [g1, g3, Sem.run_bind, h1, Result.andThen_ok, Sem.run_pure], rfl⟩, r, rfl, Ext.refl _ _, trivial, h2, h4⟩
      · cases h
    · cases h
  · next t l c hop =>
    rw [hop]; simp only
    split at h
    · next a b ha hb =>
      obtain ⟨g1, _⟩ := hE l _ ha
      obtain ⟨g3, g4⟩ := hE c _ hb
      obtain ⟨u, w', h1, h2⟩ := mkSl_sound tb R h
      exact ⟨u, w', .inl (by simp only [g1, g3, Sem.run_bind, h1, Result.andThen_ok, Sem.run_pure]), h2⟩
    · cases h
  · next t x l hi hop =>
    rw [hop]; simp only
    split at h
    · next v' l' hi' ha hl' hh' =>
      obtain ⟨g1, _⟩ := hE x _ ha
      obtain ⟨u, h1, h2⟩ := slE_sound tb R h
      refine ⟨u, w, .inl ?_, h2⟩
      rw [evOp?_sound hE hl', evOp?_sound hE hh', g1]
      simp only [Option.map_none, Sem.run_bind, h1, Result.andThen_ok, Sem.run_pure]
    · cases h
  · next s d x hop =>
    rw [hop]; simp only
    split at h
    · next a ha =>
      obtain ⟨g1, _⟩ := hE x _ ha
      obtain ⟨u, w', h1, h2⟩ := bsV_sound tb R h
      exact ⟨u, w', .inl (by simp only [g1, Sem.run_bind, h1, Result.andThen_ok, Sem.run_pure]), h2⟩
    · cases h
  · next args ts hop =>
    rw [hop]; simp only
    split at h
    · next s x hl =>
      obtain ⟨g1, g2⟩ := evLs_sound hE hl
      obtain ⟨u, w', h1, h2⟩ := appV_sound tb R g2.1 h (ty := o.type)
      have : args.map ev = #[con r s, con r x] := by apply Array.ext'; simpa [conL] using g1
      exact ⟨u, w', .inl (by
        simp only [resolve, Sem.run_bind, Sem.run_pure, Result.andThen_ok, invoke, builtin, this]
        simp only [Array.toArray_toList] at h1
        simp only [h1, Result.andThen_ok]), h2⟩
    · cases h
  · next args ts hop =>
    rw [hop]; simp only
    split at h
    · next s x hl =>
      obtain ⟨g1, g2⟩ := evLs_sound hE hl
      obtain ⟨u, w', h1, h2⟩ := cpV_sound tb R h (ty := o.type)
      have : args.map ev = #[con r s, con r x] := by apply Array.ext'; simpa [conL] using g1
      exact ⟨u, w', .inl (by
        simp only [resolve, Sem.run_bind, Sem.run_pure, Result.andThen_ok, invoke, builtin, this]
        simp only [Array.toArray_toList] at h1
        simp only [h1, Result.andThen_ok]), h2⟩
    · cases h
  · cases h

/-- Who is called, and with what. -/
def evCall (e : Operand → Option V) : Op → Option (FuncId × List V)
  | .call ⟨.value f, args, _⟩ => match e f, evLs e args.toList with
    | some (.fn g cs), some vs => match tb.fn g with
      | some _ => some (g, vs ++ cs)
      | none => none
    | _, _ => none
  | .call ⟨.invoke rc name, args, _⟩ => match e rc, evLs e args.toList with
    | some (.ifc t v), some vs => match tb.meth t name with
      | some g => match tb.fn g with
        | some _ => some (g, v :: vs)
        | none => none
      | none => none
    | _, _ => none
  | _ => none

theorem run_callFunc_enter {f : FuncId} {fn : Func} (h : tb.fn f = some fn) (args : Array Value) (w : World) : (callFunc f args).run P w = .ok (.enter f args) w := by
  obtain ⟨h1, h2, h3, _⟩ := tb.fnOk f fn h
  have h2' : fn.name ≠ "runtime.NumGoroutine" := by simpa using h2
  cases hb : fn.body with
  | none => rw [hb] at h3; cases h3
  | some c => simp [callFunc, h1, h2', hb]

theorem evCall_sound {o : Oper} {f : FuncId} {vs : List V} {nx : Nat} (hE : Holds r nx e ev) (h : evCall tb e o.op = some (f, vs)) (w : World) :
    (execOp ev o).run P w = .ok (.enter f (conL r vs).toArray) w ∧ okL nx vs := by
  unfold execOp
  unfold evCall at h
  split at h
  · next g args ts hop =>
    rw [hop]; simp only
    split at h
    · next g' cs us hf hl =>
      split at h
      · next fn hfn =>
        simp only [Option.some.injEq, Prod.mk.injEq] at h
        obtain ⟨rfl, rfl⟩ := h
        obtain ⟨g1, g2⟩ := hE g _ hf
        obtain ⟨g3, g4⟩ := evLs_sound hE hl
        have ha : args.map ev = (conL r us).toArray := by rw [← g3]; apply Array.ext'; simp
        have hc : (conL r us).toArray ++ (conL r cs).toArray = (conL r (us ++ cs)).toArray := by simp [conL_eq]
        refine ⟨?_, (okL_iff _ _).2 fun v hv => ?_⟩
        · simp only [resolve, g1, con, ha, Deferred.ofValue, Sem.run_bind, Sem.run_pure, Result.andThen_ok, invoke, Array.empty_append, hc]
          exact run_callFunc_enter tb hfn _ w
        · rcases List.mem_append.1 hv with h' | h'
          · exact (okL_iff _ _).1 g4 v h'
          · exact (okL_iff _ _).1 g2 v h'
      · cases h
    · cases h
  · next rc name args ts hop =>
    rw [hop]; simp only
    split at h
    · next t v us hf hl =>
      split at h
      · next g hm =>
        split at h
        · next fn hfn =>
          simp only [Option.some.injEq, Prod.mk.injEq] at h
          obtain ⟨rfl, rfl⟩ := h
          obtain ⟨g1, g2⟩ := hE rc _ hf
          obtain ⟨g3, g4⟩ := evLs_sound hE hl
          have ha : args.map ev = (conL r us).toArray := by rw [← g3]; apply Array.ext'; simp
          refine ⟨?_, g2, g4⟩
          have hmm := tb.methOk t name g (con r v) w hm
          have hx : (#[con r (.ifc t v)] ++ (conL r us).toArray).extract 1 (#[con r (.ifc t v)] ++ (conL r us).toArray).size = (conL r us).toArray := by
            apply Array.ext'; simp [conL_eq]; rw [List.take_of_length_le (by simp)]
          have h0 : (#[con r (.ifc t v)] ++ (conL r us).toArray)[0]? = some (.iface t (con r v)) := by simp [con]
          simp only [resolve, g1, ha, Sem.run_bind, Sem.run_pure, Result.andThen_ok, invoke, h0, hx, callMethod, run_program, hmm]
          have hc : #[con r v] ++ (conL r us).toArray = (conL r (v :: us)).toArray := by simp [conL]
          rw [hc]
          exact run_callFunc_enter tb hfn _ w
        · cases h
      · cases h
    · cases h
  · cases h

end

end Go.Proofs.Ytnogdgdkeojlpaa.Am
