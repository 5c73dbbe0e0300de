/- The abstract machine, part 3: code, calls, regions that draw their order; what the machine answers is what the call answers in every world. No conditions beyond those of each theorem. -/
import Derived.Test.YtnogdgdkeojlpaaAm2
set_option linter.unusedSimpArgs false
set_option linter.unusedVariables false
namespace Go.Proofs.Ytnogdgdkeojlpaa.Am
open Go.RowKit (Below)

inductive Ex where
  | n
  | x (id : Nat)
  | r
def conX : Ex → Exit
  | .n => .normal
  | .x id => .exit id
  | .r => .ret

/-! ### Guards -/
def ylV (ops : Array Oper) (t : T V) (j : Nat) : Option Bool :=
  match (ops[j]?).bind (·.dst) with
  | some d => match t.get d with
    | some (.b x) => some x
    | _ => none
  | none => none
def wantV (ops : Array Oper) (o : Oper) (t : T V) : Bool :=
  match o.guard with
  | none => true
  | some (j, want) => ylV ops t j == some want

theorem con_bool_inv {r : Rho} {a : V} {b : Bool} (h : con r a = .bool b) : a = .b b := by
  cases a with
  | b x => simp only [con, Value.bool.injEq] at h; rw [h]
  | p q => rcases q with _ | ⟨l, o⟩ <;> simp [con] at h
  | sl q _ _ _ => rcases q with _ | ⟨l, o⟩ <;> simp [con] at h
  | _ => simp [con] at h

/-- What the guard looks at is known. -/
def knowV (ops : Array Oper) (o : Oper) (t : T V) : Bool :=
  match o.guard with
  | none => true
  | some (j, _) => match (ops[j]?).bind (·.dst) with
    | some d => (t.get d).isSome
    | none => true
def fitK (n : Nat) (ops : Array Oper) (o : Oper) (t : T V) : Bool := fits n o.dst && knowV ops o t
theorem fitK_fits {n : Nat} {ops : Array Oper} {o : Oper} {t : T V} (h : fitK n ops o t = true) : fits n o.dst = true := by
  simp only [fitK, Bool.and_eq_true] at h; exact h.1
theorem fitK_know {n : Nat} {ops : Array Oper} {o : Oper} {t : T V} (h : fitK n ops o t = true) : knowV ops o t = true := by
  simp only [fitK, Bool.and_eq_true] at h; exact h.2

theorem ylV_eq {r : Rho} {nx n : Nat} {t : T V} {a : Act} (h : RelF r nx n t a) (ops : Array Oper) (j : Nat) (hk : ∀ d, (ops[j]?).bind (·.dst) = some d → (t.get d).isSome = true) : yielded ops a.tmps j = ylV ops t j := by
  unfold yielded ylV
  cases hd : (ops[j]?).bind (·.dst) with
  | none => rfl
  | some d =>
    simp only [Option.bind_some]
    cases ht : t.get d with
    | none => have := hk d hd; rw [ht] at this; cases this
    | some v =>
      have hg := h.get d v ht
      rw [Array.getD_eq_getD_getElem?] at hg
      cases hv : a.tmps[d]? with
      | none =>
        rw [hv] at hg
        simp only [Option.getD_none] at hg
        cases v <;> first | rfl | (simp [con, undef] at hg)
      | some u =>
        rw [hv] at hg; simp only [Option.getD_some] at hg; subst hg
        cases hb : con r v with
        | bool x => rw [con_bool_inv hb]
        | _ =>
          cases v <;> first | rfl | (simp [con] at hb)
theorem wantV_eq {r : Rho} {nx n : Nat} {t : T V} {a : Act} (h : RelF r nx n t a) (ops : Array Oper) (o : Oper) (hk : knowV ops o t = true) : Region.wanted o (yielded ops a.tmps) = wantV ops o t := by
  unfold knowV at hk
  unfold Region.wanted wantV
  cases hg : o.guard with
  | none => rfl
  | some g =>
    obtain ⟨j, want⟩ := g
    rw [hg] at hk
    simp only at hk
    simp only [ylV_eq h ops j (fun d hd => by rw [hd] at hk; exact hk)]

section
variable {P : Program} (tb : Tb P) (B : Nat → Prop) (W : World)

abbrev EC := Nat → Code → T V → LH → Option (Ex × T V × LH)
abbrev CF := FuncId → List V → LH → Option (V × LH)

/-- Code does what it is told to do. -/
def SC (P : Program) (ec : EC) : Prop := ∀ n c t h x t' h', codeB c = true → ec n c t h = some (x, t', h') → ∀ r a w, RelF r h.next n t a → RelH P B W r h w → ∀ Q : Exit → Act → World → Prop,
  (∀ r' a' w', Ext h.next r r' → RelF r' h'.next n t' a' → RelH P B W r' h' w' → Keeps h h' → Q (conX x) a' w') → c.wp P Q a w
/-- A call answers what it is told to answer. -/
def SF (P : Program) (cf : CF) : Prop := ∀ g vs h v h', cf g vs h = some (v, h') → ∀ r w, okL h.next vs → RelH P B W r h w →
  Calls P g (conL r vs).toArray w (fun e w' => ∃ u, e = .returned u ∧ Leaves P B W r h v h' u w')

def argT : List V → Nat → T V → T V
  | [], _, t => t
  | v :: l, k, t => argT l (k + 1) (t.put k (some v))

theorem argT_get : ∀ (l : List V) (k : Nat) (t : T V) (j : Nat), (argT l k t).get j = if k ≤ j ∧ j < k + l.length then l[j - k]? else t.get j
  | [], k, t, j => by simp only [argT, List.length_nil]; rw [if_neg (by omega)]
  | v :: l, k, t, j => by
    rw [argT, argT_get l (k + 1), T.get_put]
    by_cases h1 : j = k
    · subst h1
      rw [if_neg (by omega), if_pos rfl, if_pos (by simp)]
      simp
    · by_cases h2 : k + 1 ≤ j ∧ j < k + 1 + l.length
      · rw [if_pos h2, if_pos (by simp; omega)]
        rw [show j - k = (j - (k + 1)) + 1 by omega, List.getElem?_cons_succ]
      · rw [if_neg h2, if_neg h1, if_neg (by simp; omega)]

theorem relF_args (r : Rho) (nx m : Nat) (vs : List V) (hok : okL nx vs) :
    RelF r nx (vs.length + (m - vs.length)) (argT vs 0 .e) { tmps := (conL r vs).toArray ++ Array.replicate (m - (conL r vs).toArray.size) undef, defers := [] } := by
  have hl : (conL r vs).toArray.size = vs.length := by simp [length_conL]
  refine ⟨by simp [length_conL], rfl, fun k v hk => ?_, fun k v hk => ?_⟩
  · rw [argT_get] at hk
    simp only [Nat.zero_add, Nat.zero_le, true_and, Nat.sub_zero] at hk
    rw [Array.getD_eq_getD_getElem?]
    by_cases h : k < vs.length
    · rw [if_pos h] at hk
      rw [Array.getElem?_append_left (by rw [hl]; exact h), List.getElem?_toArray, getElem?_conL, hk]; rfl
    · rw [if_neg h] at hk; cases hk
  · rw [argT_get] at hk
    simp only [Nat.zero_add, Nat.zero_le, true_and, Nat.sub_zero] at hk
    split at hk
    · exact (okL_iff _ _).1 hok v (List.mem_of_getElem? hk)
    · cases hk

def resL (t : T V) (h : LH) : List ResultVar → Option (List V)
  | [] => some []
  | .tmp k :: l => match t.get k, resL t h l with
    | some v, some vs => some (v :: vs)
    | _, _ => none
  | .cell a ty :: l => match t.get a with
    | some p => match ldV tb h ty p, resL t h l with
      | some v, some vs => some (v :: vs)
      | _, _ => none
    | none => none
def resV (t : T V) (h : LH) (l : List ResultVar) : Option V :=
  match resL tb t h l with
  | some [v] => some v
  | some vs => some (.tup vs)
  | none => none

variable {tb B W}
variable {r : Rho} {H : LH} {w : World}

theorem ptr_of_ld {h : LH} {ty : TypeId} {p v : V} (hv : ldV tb h ty p = some v) : ∃ l o, p = .p (some (l, o)) := by
  unfold ldV at hv
  split at hv
  · exact ⟨_, _, rfl⟩
  · cases hv

def resOne (tmps : Array Value) : ResultVar → Sem Value
  | .tmp t => pure (tmps.getD t undef)
  | .cell a t => do loadVar t (← asAddr (tmps.getD a undef))

theorem resL_sound {n : Nat} {t : T V} {a : Act} (F : RelF r H.next n t a) (R : RelH P B W r H w) : ∀ {l : List ResultVar} {vs : List V}, resL tb t H l = some vs →
    (l.mapM (resOne a.tmps)).run P w = .ok (conL r vs) w ∧ okL H.next vs
  | [], vs, h => by simp only [resL] at h; injection h with h; subst h; exact ⟨rfl, trivial⟩
  | .tmp k :: l, vs, h => by
    simp only [resL] at h
    split at h
    · next v us hv hus =>
      injection h with h; subst h
      obtain ⟨h1, h2⟩ := resL_sound F R hus
      have hg := F.get k v hv
      refine ⟨?_, F.ok k v hv, h2⟩
      simp only [List.mapM_cons, Sem.run_bind, resOne, Sem.run_pure, Result.andThen_ok, hg, h1, conL]
    · cases h
  | .cell b ty :: l, vs, h => by
    simp only [resL] at h
    split at h
    · next p hp =>
      split at h
      · next v us hv hus =>
        injection h with h; subst h
        obtain ⟨h1, h2⟩ := resL_sound F R hus
        obtain ⟨h3, h4⟩ := ldV_sound tb R hv
        have hg := F.get b _ hp
        obtain ⟨l', o, rfl⟩ := ptr_of_ld hv
        refine ⟨?_, h4, h2⟩
        simp only [con] at hg
        simp only [con, Instr.loadAt, Instr.sureAddr, Sem.run_bind, Sem.run_pure, Result.andThen_ok] at h3
        simp only [List.mapM_cons, Sem.run_bind, resOne, Sem.run_pure, Result.andThen_ok, hg, asAddr, h3, h1, conL]
      · cases h
    · cases h

theorem results_eq (fn : Func) (tmps : Array Value) : results fn tmps = (do let vs ← fn.results.mapM (resOne tmps); pure (if h : vs.size = 1 then vs[0] else .tuple vs)) := by
  unfold results
  congr 2

theorem resV_sound {n : Nat} {t : T V} {a : Act} {fn : Func} {v : V} (F : RelF r H.next n t a) (R : RelH P B W r H w) (h : resV tb t H fn.results.toList = some v) :
    (results fn a.tmps).run P w = .ok (con r v) w ∧ okV H.next v := by
  unfold resV at h
  rw [results_eq, Array.mapM_eq_mapM_toList]
  split at h
  · next u hu =>
    injection h with h; subst h
    obtain ⟨h1, h2⟩ := resL_sound F R hu
    refine ⟨?_, h2.1⟩
    simp only [Sem.run_bind, Sem.run_map, h1, Result.andThen_ok, Sem.run_pure, conL]
    rfl
  · next us hn hu =>
    injection h with h; subst h
    obtain ⟨h1, h2⟩ := resL_sound F R hu
    refine ⟨?_, h2⟩
    simp only [Sem.run_bind, Sem.run_map, h1, Result.andThen_ok, Sem.run_pure, con]
    have : ¬ (conL r us).toArray.size = 1 := by
      simp only [List.size_toArray, length_conL]
      intro e
      obtain ⟨x, hx⟩ := List.length_eq_one_iff.1 e
      exact hn x hx
    rw [dif_neg this]
  · cases h

/-- A call, the body being told by 'ec'. -/
def callB (tb : Tb P) (ec : EC) : CF := fun g vs h =>
  match tb.fn g with
  | none => none
  | some fn => match fn.body with
    | none => none
    | some c => match ec (vs.length + (fn.ntmps - vs.length)) c (argT vs 0 .e) h with
      | some (.n, t', h') => match resV tb t' h' fn.results.toList with
        | some v => some (v, h')
        | none => none
      | some (.r, t', h') => match resV tb t' h' fn.results.toList with
        | some v => some (v, h')
        | none => none
      | _ => none
/-- What a function answers may be known. -/
def callW (tb : Tb P) (ec : EC) : CF := fun g vs h =>
  match tb.spec g with
  | some s => match s vs h with
    | some x => some x
    | none => callB tb ec g vs h
  | none => callB tb ec g vs h

theorem RelH.later (R : RelH P B W r H w) {w' : World} (hb : Below (· < w.heap.size) w w') : RelH P B W r H w' := by
  have hsz := R.size
  have hown : ∀ l b, H.get l = some b → b.own = true → (r l).1.block < w.heap.size := fun l b hl ho => by
    obtain ⟨k, pre, ext, fr, h1, h2, h3, _⟩ := R.own l b hl ho
    rw [h1]; exact (Array.getElem?_eq_some_iff.1 h3).1
  exact ⟨R.base, R.below.trans (hb.mono hsz), R.roLe, R.lt, R.ok,
    fun l b hl ho => (R.ro l b hl ho).ext (R.lt l b hl) (R.ok l b hl) (Ext.refl _ _) (fun k hk => hb.block k (hsz k hk)),
    fun l b hl ho => (R.own l b hl ho).ext (R.lt l b hl) (R.ok l b hl) (Ext.refl _ _) (hb.block _ (hown l b hl ho)), R.inj⟩

theorem callB_sound {ec : EC} (S : SC B W P ec) : SF B W P (callB tb ec) := by
  intro g vs h v h' hc r w hok R
  unfold callB at hc
  split at hc
  · cases hc
  · next fn hfn =>
    obtain ⟨hf, _, _, hcb⟩ := tb.fnOk g fn hfn
    split at hc
    · cases hc
    · next c hb =>
      have F0 := relF_args r h.next fn.ntmps vs hok
      split at hc
      · next t' h'' he =>
        split at hc
        · next v' hv =>
          simp only [Option.some.injEq, Prod.mk.injEq] at hc
          obtain ⟨rfl, rfl⟩ := hc
          refine calls_of_wp hf hb (S _ _ _ _ _ _ _ (hcb c hb) he r _ w F0 R _ fun r' a' w' he' F' R' K => ?_)
          obtain ⟨g1, g2⟩ := resV_sound F' R' hv
          exact bodyPost_end g1 F'.defers ⟨_, rfl, r', rfl, he', g2, R', K⟩
        · cases hc
      · next t' h'' he =>
        split at hc
        · next v' hv =>
          simp only [Option.some.injEq, Prod.mk.injEq] at hc
          obtain ⟨rfl, rfl⟩ := hc
          refine calls_of_wp hf hb (S _ _ _ _ _ _ _ (hcb c hb) he r _ w F0 R _ fun r' a' w' he' F' R' K => ?_)
          obtain ⟨g1, g2⟩ := resV_sound F' R' hv
          exact bodyPost_ret g1 F'.defers ⟨_, rfl, r', rfl, he', g2, R', K⟩
        · cases hc
      · cases hc
theorem callW_sound {ec : EC} (S : SC B W P ec) : SF B W P (callW tb ec) := by
  intro g vs h v h' hc r w hok R
  unfold callW at hc
  split at hc
  · next s hs =>
    split at hc
    · next x hx =>
      injection hc with hc; subst hc
      exact tb.specOk g s hs B W r w vs h v h' hx hok R
    · exact callB_sound S g vs h v h' hc r w hok R
  · exact callB_sound S g vs h v h' hc r w hok R

/-- A function without arguments that answers the same in every world. -/
def constS (v : V) : List V → LH → Option (V × LH) := fun vs h => match vs with
  | [] => some (v, h)
  | _ => none
theorem constS_ok {g : FuncId} {v : V} {c : Value} (h1 : ∀ n, okV n v) (h2 : ∀ r, con r v = c) (h3 : ∀ w, Calls P g #[] w (fun e w' => e = .returned c ∧ RowKit.Below w.heap.size w w')) :
    ∀ (B : Nat → Prop) (W : World) (r : Rho) (w : World) (vs : List V) (h : LH) (v' : V) (h' : LH), constS v vs h = some (v', h') → okL h.next vs → RelH P B W r h w →
    Calls P g (conL r vs).toArray w (fun e w' => ∃ u, e = .returned u ∧ Leaves P B W r h v' h' u w') := by
  intro B W r w vs h v' h' hc hok R
  unfold constS at hc
  split at hc
  · simp only [Option.some.injEq, Prod.mk.injEq] at hc
    obtain ⟨rfl, rfl⟩ := hc
    exact (h3 w).mono fun e w' ⟨he, hb⟩ => ⟨c, he, r, (h2 r).symm, Ext.refl _ _, h1 _, R.later (.ofKit hb), Keeps.refl _⟩
  · cases hc

/-! ### One operation, calls told by 'cf' -/
def step (tb : Tb P) (cf : CF) (e : Operand → Option V) (h : LH) (op : Op) : Option (V × LH) :=
  match evP tb e op with
  | some v => some (v, h)
  | none => match evR tb e h op with
    | some v => some (v, h)
    | none => match evH tb e h op with
      | some x => some x
      | none => match evCall tb e op with
        | some (g, vs) => cf g vs h
        | none => none

theorem upon_gives {o : Oper} {a : Act} {K : Act → World → Prop} {Q : Exit → Act → World → Prop} {u : Value} {w' : World} (h : Gives P (execOp a.eval o) w u w') (hk : K (a.put o.dst u) w') : o.wp P a w K Q := by
  unfold Oper.wp
  rcases h with h | ⟨h, rfl⟩
  · rw [h]; exact hk
  · rw [h]; exact hk

theorem step_sound {cf : CF} (S : SF B W P cf) {o : Oper} {a : Act} {e : Operand → Option V} {v : V} {h' : LH} (R : RelH P B W r H w) (hE : Holds r H.next e a.eval) (h : step tb cf e H o.op = some (v, h'))
    {K : Act → World → Prop} {Q : Exit → Act → World → Prop} (hk : ∀ u w', Leaves P B W r H v h' u w' → K (a.put o.dst u) w') : o.wp P a w K Q := by
  unfold step at h
  split at h
  · next v' hv =>
    simp only [Option.some.injEq, Prod.mk.injEq] at h
    obtain ⟨rfl, rfl⟩ := h
    obtain ⟨h1, h2⟩ := evP_sound tb hE hv w
    exact upon_gives (.inl h1) (hk _ _ ⟨r, rfl, Ext.refl _ _, h2, R, Keeps.refl _⟩)
  · split at h
    · next v' hv =>
      simp only [Option.some.injEq, Prod.mk.injEq] at h
      obtain ⟨rfl, rfl⟩ := h
      obtain ⟨h1, h2⟩ := evR_sound tb R hE hv
      exact upon_gives (.inl h1) (hk _ _ ⟨r, rfl, Ext.refl _ _, h2, R, Keeps.refl _⟩)
    · split at h
      · next x hx =>
        injection h with h; subst h
        obtain ⟨u, w', h1, h2⟩ := evH_sound tb R hE hx
        exact upon_gives h1 (hk _ _ h2)
      · split at h
        · next g vs hc =>
          obtain ⟨h1, h2⟩ := evCall_sound tb hE hc w
          unfold Oper.wp
          rw [h1, Oper.upon_enter]
          refine (S g vs H v h' h r w h2 R).mono fun e w' ⟨u, he, hl⟩ => ?_
          subst he
          exact hk _ _ hl
        · cases h

theorem holds_of {nx n : Nat} {t : T V} {a : Act} (F : RelF r nx n t a) : Holds r nx (evO t) a.eval := fun _ _ hx => evO_sound F hx

/-- Operations one after the other. -/
def runOps (tb : Tb P) (cf : CF) (n : Nat) (ops : Array Oper) : List Oper → T V → LH → Option (T V × LH)
  | [], t, h => some (t, h)
  | o :: l, t, h =>
    if fitK n ops o t then
      match wantV ops o t with
      | true => match step tb cf (evO t) h o.op with
        | some (v, h') => runOps tb cf n ops l (setO t o.dst v) h'
        | none => none
      | false => runOps tb cf n ops l (setO t o.dst (.tup [])) h
    else none

theorem runOps_sound {cf : CF} (S : SF B W P cf) {n : Nat} {ops : Array Oper} : ∀ {l : List Oper} {t t' : T V} {h h' : LH}, runOps tb cf n ops l t h = some (t', h') → ∀ {r : Rho} {a : Act} {w : World}, RelF r h.next n t a → RelH P B W r h w →
    ∀ {Q : Exit → Act → World → Prop}, (∀ r' a' w', Ext h.next r r' → RelF r' h'.next n t' a' → RelH P B W r' h' w' → Keeps h h' → Q .normal a' w') → wpList P ops Q l a w
  | [], t, t', h, h', hr, r, a, w, F, R, Q, hq => by
    simp only [runOps, Option.some.injEq, Prod.mk.injEq] at hr
    obtain ⟨rfl, rfl⟩ := hr
    exact hq r a w (Ext.refl _ _) F R (Keeps.refl _)
  | o :: l, t, t', h, h', hr, r, a, w, F, R, Q, hq => by
    simp only [runOps] at hr
    split at hr
    · next hf =>
      unfold wpList
      rw [wantV_eq F ops o (fitK_know hf)]
      split at hr
      · next hw =>
        rw [hw, if_pos rfl]
        split at hr
        · next v h1 hs =>
          refine .inl (step_sound S R (holds_of F) hs fun u w' ⟨r', hu, he, hok, R', K⟩ => ?_)
          subst hu
          refine runOps_sound S hr ((F.ext he K.next).put (fitK_fits hf) hok) R' fun r2 a2 w2 he2 F2 R2 K2 => hq r2 a2 w2 (he.trans K.next he2) F2 R2 (K.trans K2)
        · cases hr
      · next hw =>
        rw [hw, if_neg (by simp)]
        exact runOps_sound S hr (F.undef (fitK_fits hf)) R hq
    · cases hr

end

mutual
def okB (n : Nat) : V → Bool
  | .p (some (l, _)) => decide (l < n)
  | .sl (some (l, _)) _ _ _ => decide (l < n)
  | .fn _ cs => okBL n cs
  | .ifc _ v => okB n v
  | .agg l => okBL n l
  | .tup l => okBL n l
  | _ => true
def okBL (n : Nat) : List V → Bool
  | [] => true
  | v :: l => okB n v && okBL n l
end
mutual
theorem okB_sound {n : Nat} : ∀ v, okB n v = true → okV n v
  | .b _, _ => trivial
  | .i _ _, _ => trivial
  | .s _, _ => trivial
  | .p none, _ => trivial
  | .p (some (l, o)), h => by simpa [okB, okV] using h
  | .sl none _ _ _, _ => trivial
  | .sl (some (l, o)) _ _ _, h => by simpa [okB, okV] using h
  | .fn f cs, h => by simp only [okB] at h; exact okBL_sound cs h
  | .nf, _ => trivial
  | .ifc t v, h => by simp only [okB] at h; exact okB_sound v h
  | .nif, _ => trivial
  | .agg l, h => by simp only [okB] at h; exact okBL_sound l h
  | .tup l, h => by simp only [okB] at h; exact okBL_sound l h
theorem okBL_sound {n : Nat} : ∀ l, okBL n l = true → okL n l
  | [], _ => trivial
  | v :: l, h => by simp only [okBL, Bool.and_eq_true] at h; exact ⟨okB_sound v h.1, okBL_sound l h.2⟩
end

section
variable {P : Program} {tb : Tb P} {B : Nat → Prop} {W w : World} {r : Rho} {H : LH} {e : Operand → Option V}

theorem RelH.withRo (R : RelH P B W r H w) : RelH P B W r ⟨H.next, H.next, H.m⟩ w :=
  ⟨R.base, R.below, Nat.le_refl _, R.lt, R.ok, R.ro, R.own, R.inj⟩

/-- What a call leaves that wrote nothing that was there. -/
theorem RelH.back {r' : Rho} {H' : LH} {w' : World} (R : RelH P B W r H w) (R' : RelH P B W r' H' w') (he : Ext H.next r r') (K : Keeps ⟨H.next, H.next, H.m⟩ H') : RelH P B W r H w' := by
  have hg : ∀ l b, H.get l = some b → H'.get l = some b := fun l b hl => by
    have := K.get l (R.lt l b hl)
    rw [this]; exact hl
  refine ⟨R.base, R'.below, R.roLe, R.lt, R.ok, fun l b hl ho j v hj => ?_, fun l b hl ho => ?_, R.inj⟩
  · have := R'.ro l b (hg l b hl) ho j v hj
    rw [he l (R.lt l b hl), con_ext he v (R.okCell hl hj)] at this
    exact this
  · obtain ⟨k, pre, ext, fr, h1, h2, h3, h4, h5⟩ := R'.own l b (hg l b hl) ho
    rw [he l (R.lt l b hl)] at h1 h4
    rw [conL_ext he _ (R.ok l b hl)] at h3
    exact ⟨k, pre, ext, fr, h1, h2, h3, h4, h5⟩

/-- An operation that writes nothing that is there, and answers the same whenever it comes. -/
def evQ (tb : Tb P) (cf : CF) (e : Operand → Option V) (h : LH) (op : Op) : Option V :=
  match evP tb e op with
  | some v => some v
  | none => match evR tb e h op with
    | some v => some v
    | none => match evCall tb e op with
      | some (g, vs) => if tb.loud g then none else match cf g vs ⟨h.next, h.next, h.m⟩ with
        | some (v, _) => if okB h.next v then some v else none
        | none => none
      | none => none
def evE (tb : Tb P) (cf : CF) (e : Operand → Option V) (h : LH) (op : Op) : Option (V × LH) :=
  match evH tb e h op with
  | some x => some x
  | none => match evCall tb e op with
    | some (g, vs) => cf g vs h
    | none => none

theorem evQ_sound {cf : CF} (S : SF B W P cf) {o : Oper} {a : Act} {v : V} (R : RelH P B W r H w) (hE : Holds r H.next e a.eval) (h : evQ tb cf e H o.op = some v)
    {K : Act → World → Prop} {Q : Exit → Act → World → Prop} (hk : ∀ w', RelH P B W r H w' → K (a.put o.dst (con r v)) w') : o.wp P a w K Q ∧ okV H.next v := by
  unfold evQ at h
  split at h
  · next v' hv =>
    injection h with h; subst h
    obtain ⟨h1, h2⟩ := evP_sound tb hE hv w
    exact ⟨upon_gives (.inl h1) (hk _ R), h2⟩
  · split at h
    · next v' hv =>
      injection h with h; subst h
      obtain ⟨h1, h2⟩ := evR_sound tb R hE hv
      exact ⟨upon_gives (.inl h1) (hk _ R), h2⟩
    · split at h
      · next g vs hc =>
        split at h
        · cases h
        · split at h
          · next v' H' hcf =>
            split at h
            · next hok =>
              injection h with h; subst h
              have hv := okB_sound _ hok
              refine ⟨?_, hv⟩
              obtain ⟨h1, h2⟩ := evCall_sound tb hE hc w
              unfold Oper.wp
              rw [h1, Oper.upon_enter]
              refine (S g vs _ v' H' hcf r w h2 R.withRo).mono fun e w' ⟨u, he, r', hu, hx, hok', R', Kp⟩ => ?_
              subst he; subst hu
              show K _ _
              rw [con_ext hx v' hv]
              exact hk _ (R.back R' hx Kp)
            · cases h
          · cases h
      · cases h

theorem evE_sound {cf : CF} (S : SF B W P cf) {o : Oper} {a : Act} {v : V} {h' : LH} (R : RelH P B W r H w) (hE : Holds r H.next e a.eval) (h : evE tb cf e H o.op = some (v, h'))
    {K : Act → World → Prop} {Q : Exit → Act → World → Prop} (hk : ∀ u w', Leaves P B W r H v h' u w' → K (a.put o.dst u) w') : o.wp P a w K Q := by
  unfold evE at h
  split at h
  · next x hx =>
    injection h with h; subst h
    obtain ⟨u, w', h1, h2⟩ := evH_sound tb R hE hx
    exact upon_gives h1 (hk _ _ h2)
  · split at h
    · next g vs hc =>
      obtain ⟨h1, h2⟩ := evCall_sound tb hE hc w
      unfold Oper.wp
      rw [h1, Oper.upon_enter]
      refine (S g vs H v h' h r w h2 R).mono fun e w' ⟨u, he, hl⟩ => ?_
      subst he
      exact hk _ _ hl
    · cases h

/-! ### What an operation looks at -/
def eR (L : List Tmp) (t : T V) : Operand → Option V
  | .tmp k => if L.contains k then t.get k else none
  | x => evO t x
theorem eR_holds {nx n : Nat} {t : T V} {a : Act} (F : RelF r nx n t a) (L : List Tmp) : Holds r nx (eR L t) a.eval := fun x v hx => by
  cases x with
  | tmp k =>
    simp only [eR] at hx
    split at hx
    · exact evO_sound F (x := .tmp k) hx
    · cases hx
  | const c => exact evO_sound F (x := .const c) hx
  | global g => exact evO_sound F (x := .global g) hx
  | func f => exact evO_sound F (x := .func f) hx
theorem eR_congr {L : List Tmp} {t t' : T V} (h : ∀ s ∈ L, t.get s = t'.get s) : eR L t = eR L t' := funext fun x => by
  cases x with
  | tmp k =>
    simp only [eR]
    split
    · next hc => exact h k (by simpa using hc)
    · rfl
  | _ => rfl
theorem wantV_congr {ops : Array Oper} {o : Oper} {t t' : T V} (h : ∀ s ∈ o.looksAt ops, t.get s = t'.get s) : wantV ops o t = wantV ops o t' := by
  unfold wantV
  cases hg : o.guard with
  | none => rfl
  | some g =>
    obtain ⟨j, want⟩ := g
    simp only [ylV]
    cases hd : (ops[j]?).bind (·.dst) with
    | none => rfl
    | some d => simp only; rw [h d (by simp [Oper.looksAt, hg, hd])]
theorem knowV_congr {ops : Array Oper} {o : Oper} {t t' : T V} (h : ∀ s ∈ o.looksAt ops, t.get s = t'.get s) : knowV ops o t = knowV ops o t' := by
  unfold knowV
  cases hg : o.guard with
  | none => rfl
  | some g =>
    obtain ⟨j, want⟩ := g
    simp only
    cases hd : (ops[j]?).bind (·.dst) with
    | none => rfl
    | some d => simp only; rw [h d (by simp [Oper.looksAt, hg, hd])]

end

/-! ### What the slots hold behind some of the operations -/
def dstOf (ops : Array Oper) (k : Nat) : Option Tmp := (ops[k]?).bind (·.dst)
def lastW (ops : Array Oper) (vs : Nat → V) (t0 : T V) (p : Nat → Bool) : Nat → Tmp → Option V
  | 0, s => t0.get s
  | k + 1, s => if p k = true ∧ dstOf ops k = some s then some (vs k) else lastW ops vs t0 p k s

theorem lastW_eq {ops : Array Oper} {vs : Nat → V} {t0 : T V} {p : Nat → Bool} {s : Tmp} (i : Nat) : ∀ m, (∀ j, j < m → dstOf ops j = some s → (p j = true ↔ j < i)) → i ≤ m → lastW ops vs t0 p m s = lastW ops vs t0 (fun _ => true) i s
  | 0, _, h => by
    have : i = 0 := by omega
    subst this; rfl
  | m + 1, h, hi => by
    by_cases hm : i = m + 1
    · subst hm
      -- all of them
      have : ∀ k, k ≤ m + 1 → lastW ops vs t0 p k s = lastW ops vs t0 (fun _ => true) k s := by
        intro k
        induction k with
        | zero => intro _; rfl
        | succ k ih =>
          intro hk
          simp only [lastW]
          rw [ih (by omega)]
          by_cases hd : dstOf ops k = some s
          · rw [if_pos ⟨(h k (by omega) hd).2 (by omega), hd⟩, if_pos ⟨trivial, hd⟩]
          · rw [if_neg (fun x => hd x.2), if_neg (fun x => hd x.2)]
      exact this _ (Nat.le_refl _)
    · simp only [lastW]
      rw [if_neg (fun x => by have := (h m (by omega) x.2).1 x.1; omega)]
      exact lastW_eq i m (fun j hj => h j (by omega)) (by omega)

theorem lastW_put {ops : Array Oper} {vs : Nat → V} {t0 : T V} {p p' : Nat → Bool} {s : Tmp} {i : Nat} (hp : ∀ k, p' k = (p k || decide (k = i))) (hpi : p i = false) : ∀ m, (∀ j, i < j → j < m → p j = true → dstOf ops j = some s → dstOf ops i ≠ some s) →
    lastW ops vs t0 p' m s = if i < m ∧ dstOf ops i = some s then some (vs i) else lastW ops vs t0 p m s
  | 0, _ => by simp [lastW]
  | m + 1, h => by
    simp only [lastW]
    have ih := lastW_put (vs := vs) (t0 := t0) hp hpi m (fun j h1 h2 => h j h1 (by omega))
    by_cases hm : m = i
    · subst hm
      have hpm : p' m = true := by rw [hp]; simp
      by_cases hd : dstOf ops m = some s
      · rw [if_pos ⟨hpm, hd⟩, if_pos ⟨by omega, hd⟩]
      · rw [if_neg (fun x => hd x.2), if_neg (fun x => hd x.2), if_neg (fun x => hd x.2), ih, if_neg (fun x => hd x.2)]
    · have hpm : p' m = p m := by rw [hp]; simp [hm]
      rw [hpm, ih]
      by_cases hq : p m = true ∧ dstOf ops m = some s
      · rw [if_pos hq, if_pos hq]
        by_cases hi : i < m + 1 ∧ dstOf ops i = some s
        · exact absurd hi.2 (h m (by omega) (by omega) hq.1 hq.2)
        · rw [if_neg hi]
      · rw [if_neg hq, if_neg hq]
        by_cases hi : i < m ∧ dstOf ops i = some s
        · rw [if_pos hi, if_pos ⟨by omega, hi.2⟩]
        · rw [if_neg hi, if_neg (fun x => hi ⟨by omega, x.2⟩)]

/-- How many are left. -/
def cnt (p : Nat → Bool) : Nat → Nat
  | 0 => 0
  | k + 1 => cnt p k + if p k then 0 else 1
theorem cnt_zero {p : Nat → Bool} : ∀ {m : Nat}, cnt p m = 0 → ∀ i, i < m → p i = true
  | 0, _, i, hi => absurd hi (Nat.not_lt_zero _)
  | m + 1, h, i, hi => by
    simp only [cnt] at h
    by_cases e : i = m
    · subst e
      cases hp : p i
      · rw [hp] at h; simp at h
      · rfl
    · exact cnt_zero (m := m) (by omega) i (by omega)
theorem cnt_put {p p' : Nat → Bool} {i : Nat} (hp : ∀ k, p' k = (p k || decide (k = i))) (hpi : p i = false) : ∀ m, (i < m → cnt p' m + 1 = cnt p m) ∧ (¬ i < m → cnt p' m = cnt p m)
  | 0 => ⟨fun h => absurd h (Nat.not_lt_zero _), fun _ => rfl⟩
  | m + 1 => by
    obtain ⟨ih1, ih2⟩ := cnt_put hp hpi m
    simp only [cnt]
    by_cases e : m = i
    · subst e
      have h1 : p' m = true := by rw [hp]; simp
      have := ih2 (by omega)
      rw [h1, hpi, this]
      exact ⟨fun _ => by simp, fun h => absurd (Nat.lt_succ_self m) h⟩
    · have h1 : p' m = p m := by rw [hp]; simp [e]
      rw [h1]
      refine ⟨fun h => ?_, fun h => ?_⟩
      · have := ih1 (by omega); omega
      · have := ih2 (by omega); omega

section
variable {P : Program} {tb : Tb P} {B : Nat → Prop} {W : World}

structure Plan (tb : Tb P) (cf : CF) (ops : Array Oper) (n : Nat) (t0 : T V) (h0 : LH) (vs : Nat → V) (tl : Nat → T V) (hs : Nat → LH) (k : Nat) (ei : Nat → Nat) : Prop where
  st : statB ops = true
  fit : ∀ (i : Nat) (o : Oper), ops[i]? = some o → fits n o.dst = true
  know : ∀ (i : Nat) (o : Oper), ops[i]? = some o → knowV ops o (tl i) = true
  tlg : ∀ i, i ≤ ops.size → ∀ s, (tl i).get s = lastW ops vs t0 (fun _ => true) i s
  h0 : hs 0 = h0
  elt : ∀ p, p < k → ei p < ops.size
  chain : ∀ p, p + 1 < k → anc ops (ei (p + 1)) (ei p) = true
  op : ∀ (i : Nat) (o : Oper), ops[i]? = some o →
    (wantV ops o (tl i) = false ∧ vs i = .tup [] ∧ ∀ p, p < k → ei p ≠ i) ∨
    (wantV ops o (tl i) = true ∧ (∀ p, p < k → ei p ≠ i) ∧ ∀ q, q ≤ k → (∀ p, p < q → p < k → anc ops (ei p) i = false) → (∀ p, q ≤ p → p < k → anc ops i (ei p) = false) →
      evQ tb cf (eR (o.looksAt ops) (tl i)) (hs q) o.op = some (vs i)) ∨
    (∃ p, p < k ∧ ei p = i ∧ wantV ops o (tl i) = true ∧ evE tb cf (eR (o.looksAt ops) (tl i)) (hs p) o.op = some (vs i, hs (p + 1)))

theorem RelF.same {r : Rho} {nx n : Nat} {t t' : T V} {a : Act} (F : RelF r nx n t a) (h : ∀ s, t'.get s = t.get s) : RelF r nx n t' a :=
  ⟨F.size, F.defers, fun k v hk => F.get k v (by rw [← h k]; exact hk), fun k v hk => F.ok k v (by rw [← h k]; exact hk)⟩

variable {cf : CF} {ops : Array Oper} {n : Nat} {t0 : T V} {h0 : LH} {vs : Nat → V} {tl : Nat → T V} {hs : Nat → LH} {k : Nat} {ei : Nat → Nat}

theorem Plan.step_lt (pl : Plan tb cf ops n t0 h0 vs tl hs k ei) : ∀ d p, p + d + 1 < k + 1 → d ≠ 0 → ei p < ei (p + d) := by
  intro d
  induction d with
  | zero => intro p _ h; exact absurd rfl h
  | succ d ih =>
    intro p hp _
    have h1 := anc_lt pl.st (pl.elt (p + d + 1) (by omega)) (pl.chain (p + d) (by omega))
    by_cases hd : d = 0
    · subst hd; exact h1
    · have := ih p (by omega) hd
      show ei p < ei (p + d + 1)
      omega
theorem Plan.mono (pl : Plan tb cf ops n t0 h0 vs tl hs k ei) {p q : Nat} (hq : q < k) (h : p < q) : ei p < ei q := by
  have := pl.step_lt (q - p) p (by omega) (by omega)
  rwa [show p + (q - p) = q by omega] at this

/-- Whatever has come up already. -/
theorem any_of_plan (S : SF B W P cf) (pl : Plan tb cf ops n t0 h0 vs tl hs k ei) {Q : Exit → Act → World → Prop} {r0 : Rho}
    (hQ : ∀ r' a' w', Ext h0.next r0 r' → RelF r' (hs k).next n (tl ops.size) a' → RelH P B W r' (hs k) w' → Keeps h0 (hs k) → Q .normal a' w') :
    ∀ (fuel : Nat) (listed : Array Bool) (a : Act) (w : World) (q : Nat) (tL : T V) (r' : Rho), listed.size = ops.size → Closed ops (fun i => listed.getD i false) → cnt (fun i => listed.getD i false) ops.size ≤ fuel → q ≤ k →
      (∀ p, p < k → (p < q ↔ listed.getD (ei p) false = true)) → (∀ s, tL.get s = lastW ops vs t0 (fun i => listed.getD i false) ops.size s) → Ext h0.next r0 r' → RelF r' (hs q).next n tL a → RelH P B W r' (hs q) w → Keeps h0 (hs q) →
      wpAny P .any ops Q fuel listed a w := by
  -- when all have come up
  have fin : ∀ (listed : Array Bool) (a : Act) (w : World) (q : Nat) (tL : T V) (r' : Rho), (∀ i, i < ops.size → listed.getD i false = true) → q ≤ k →
      (∀ p, p < k → (p < q ↔ listed.getD (ei p) false = true)) → (∀ s, tL.get s = lastW ops vs t0 (fun i => listed.getD i false) ops.size s) → Ext h0.next r0 r' → RelF r' (hs q).next n tL a → RelH P B W r' (hs q) w → Keeps h0 (hs q) → Q .normal a w := by
    intro listed a w q tL r' hall hq he ht hx F R K
    have hqk : q = k := by
      by_cases h : q = k
      · exact h
      · exact absurd ((he q (by omega)).2 (hall _ (pl.elt q (by omega)))) (Nat.lt_irrefl _)
    subst hqk
    refine hQ r' a w hx (F.same fun s => ?_) R K
    rw [pl.tlg _ (Nat.le_refl _), ht s]
    exact (lastW_eq ops.size _ (fun j hj _ => ⟨fun _ => hj, fun _ => hall j hj⟩) (Nat.le_refl _)).symm
  intro fuel
  induction fuel with
  | zero =>
    intro listed a w q tL r' hsz hc hcnt hq he ht hx F R K
    have hall := cnt_zero (Nat.le_zero.1 hcnt)
    refine ⟨?_, fin listed a w q tL r' hall hq he ht hx F R K⟩
    refine List.eq_nil_iff_forall_not_mem.2 fun j hj => ?_
    obtain ⟨h1, o, h2, _⟩ := mem_ready.1 hj
    have hj' : j < ops.size := (Array.getElem?_eq_some_iff.1 h2).1
    have h3 := hall j hj'
    have hjl : j < listed.size := by omega
    simp only [Array.getD_eq_getD_getElem?, Array.getElem?_eq_getElem hjl, Option.getD_some] at h1 h3
    rw [h1] at h3; cases h3
  | succ fuel ih =>
    intro listed a w q tL r' hsz hc hcnt hq he ht hx F R K
    have gd : ∀ j, j < ops.size → listed.getD j true = listed.getD j false := fun j hj => by
      have : j < listed.size := by omega
      simp [Array.getElem?_eq_getElem this]
    refine ⟨fun hr => ?_, fun i hi => ?_⟩
    · -- nobody may come: all have come
      refine fin listed a w q tL r' ?_ hq he ht hx F R K
      intro i
      induction i using Nat.strongRecOn with
      | _ i ih2 =>
        intro hi
        by_cases hl : listed.getD i false = true
        · exact hl
        · exfalso
          have ho : ops[i]? = some ops[i] := Array.getElem?_eq_getElem hi
          have : i ∈ Region.ready .any ops listed := mem_ready.2 ⟨by rw [gd i hi]; simpa using hl, _, ho, fun e hem hb => by
            have := statB_back pl.st ho e hem hb
            exact ih2 e.on this (by omega)⟩
          rw [hr] at this; cases this
    · obtain ⟨hun, o, ho, hdeps⟩ := mem_ready.1 hi
      have hi' : i < ops.size := (Array.getElem?_eq_some_iff.1 ho).1
      have hunl : listed.getD i false = false := by rw [← gd i hi']; exact hun
      -- with i there
      let p' : Nat → Bool := fun j => listed.getD j false || decide (j = i)
      have hp' : ∀ j, (listed.setIfInBounds i true).getD j false = p' j := fun j => by
        by_cases e : i = j
        · subst e
          have : i < listed.size := by omega
          simp [p', this]
        · rw [getD_set_ne false e]
          have : ¬ j = i := fun h => e h.symm
          simp [p', this]
      have hc' : Closed ops p' := fun j oj hj hpj e hem hb => by
        simp only [p', Bool.or_eq_true, decide_eq_true_eq] at hpj ⊢
        rcases hpj with hpj | hpj
        · exact .inl (hc j oj hj hpj e hem hb)
        · subst hpj
          have : oj = o := Option.some.inj (hj.symm.trans ho)
          subst this
          exact .inl (hdeps e hem hb)
      -- whom i waits for has come
      have hup : ∀ j, anc ops i j = true → listed.getD j false = true := fun j hj => by
        have := hc'.anc pl.st i hi' j hj (by simp [p'])
        simp only [p', Bool.or_eq_true, decide_eq_true_eq] at this
        rcases this with h | h
        · exact h
        · subst h; have := anc_lt pl.st hi' hj; omega
      -- who waits for i has not come
      have hdn : ∀ j, j < ops.size → anc ops j i = true → listed.getD j false = false := fun j hj ha => by
        cases hl : listed.getD j false with
        | false => rfl
        | true =>
          have := hc.anc pl.st j hj i ha hl
          rw [hunl] at this; cases this
      -- what i looks at
      have hagree : ∀ s ∈ o.looksAt ops, (tl i).get s = tL.get s := fun s hs' => by
        rw [pl.tlg i (Nat.le_of_lt hi') s, ht s]
        refine (lastW_eq i _ (fun j hj hd => ?_) (Nat.le_of_lt hi')).symm
        have hoj : ops[j]? = some ops[j] := Array.getElem?_eq_getElem hj
        have hdj : ops[j].dst = some s := by simpa [dstOf, hoj] using hd
        rcases Nat.lt_trichotomy j i with h | h | h
        · refine ⟨fun _ => h, fun _ => ?_⟩
          rcases statB_apart pl.st ho hoj h with ha | ha
          · exact hup j ha
          · exact absurd hs' ((Oper.apart_spec ha).1 s hdj)
        · subst h
          refine ⟨fun h => ?_, fun h => absurd h (Nat.lt_irrefl _)⟩
          rw [hunl] at h; cases h
        · refine ⟨fun hl => ?_, fun h' => by omega⟩
          rcases statB_apart pl.st hoj ho h with ha | ha
          · have := hdn j hj ha
            rw [this] at hl; cases hl
          · exact absurd hs' ((Oper.apart_spec ha).2.2 s hdj)
      have hclean : ∀ s j, i < j → j < ops.size → listed.getD j false = true → dstOf ops j = some s → dstOf ops i ≠ some s := fun s j hij hj hl hd hdi => by
        have hoj : ops[j]? = some ops[j] := Array.getElem?_eq_getElem hj
        have hdj : ops[j].dst = some s := by simpa [dstOf, hoj] using hd
        have hdi' : o.dst = some s := by simpa [dstOf, ho] using hdi
        rcases statB_apart pl.st hoj ho hij with ha | ha
        · have := hdn j hj ha
          rw [this] at hl; cases hl
        · exact (Oper.apart_spec ha).2.1 s hdi' hdj
      have hnew : ∀ s, (setO tL o.dst (vs i)).get s = lastW ops vs t0 (fun j => (listed.setIfInBounds i true).getD j false) ops.size s := fun s => by
        rw [lastW_put (p := fun j => listed.getD j false) hp' hunl ops.size (fun j h1 h2 h3 h4 => hclean s j h1 h2 h3 h4), ← ht s]
        have hdi : dstOf ops i = o.dst := by simp [dstOf, ho]
        rw [hdi]
        cases hd : o.dst with
        | none => simp [setO]
        | some d =>
          simp only [setO, T.get_put, Option.some.injEq]
          by_cases e : s = d
          · rw [if_pos e, if_pos ⟨hi', e.symm⟩]
          · rw [if_neg e, if_neg (fun x => e x.2.symm)]
      have hcnt' : cnt (fun j => (listed.setIfInBounds i true).getD j false) ops.size ≤ fuel := by
        have := (cnt_put (p := fun j => listed.getD j false) hp' hunl ops.size).1 hi'
        omega
      have hc'' : Closed ops (fun j => (listed.setIfInBounds i true).getD j false) := by
        have : (fun j => (listed.setIfInBounds i true).getD j false) = p' := funext hp'
        rw [this]; exact hc'
      have hsz' : (listed.setIfInBounds i true).size = ops.size := by simpa using hsz
      have hwant : Region.wanted o (yielded ops a.tmps) = wantV ops o (tl i) := by rw [wantV_eq F ops o (by rw [← knowV_congr hagree]; exact pl.know i o ho)]; exact (wantV_congr hagree).symm
      have heR : eR (o.looksAt ops) (tl i) = eR (o.looksAt ops) tL := eR_congr hagree
      have same : (∀ p, p < k → ei p ≠ i) → ∀ p, p < k → (p < q ↔ (listed.setIfInBounds i true).getD (ei p) false = true) := fun hne p hp => by
        rw [hp']
        have : ¬ ei p = i := hne p hp
        simp only [p', this, decide_false, Bool.or_false]
        exact he p hp
      unfold wpOp
      simp only [ho]
      rw [hwant]
      rcases pl.op i o ho with ⟨hw, hv, hne⟩ | ⟨hw, hne, hq'⟩ | ⟨p, hp, hei, hw, hev⟩
      · rw [hw, if_neg (by simp)]
        rw [hv] at hnew
        exact ih _ _ _ q _ r' hsz' hc'' hcnt' hq (same hne) hnew hx (F.undef (pl.fit i o ho)) R K
      · rw [hw, if_pos rfl]
        have hv := hq' q hq (fun p hpq hpk => by
          cases ha : anc ops (ei p) i with
          | false => rfl
          | true => have := hdn _ (pl.elt p hpk) ha; have h2 := (he p hpk).1 hpq; rw [this] at h2; cases h2) (fun p hpq hpk => by
          cases ha : anc ops i (ei p) with
          | false => rfl
          | true => have := (he p hpk).2 (hup _ ha); omega)
        rw [heR] at hv
        have hokv := (evQ_sound S R (eR_holds F _) hv (K := fun _ _ => True) (Q := fun _ _ _ => True) (fun _ _ => trivial)).2
        exact .inl (evQ_sound S R (eR_holds F _) hv fun w' R' => ih _ _ _ q _ r' hsz' hc'' hcnt' hq (same hne) hnew hx (F.put (pl.fit i o ho) hokv) R' K).1
      · rw [hw, if_pos rfl]
        have hqp : q = p := by
          have h1 : ¬ p < q := fun h => by have := (he p hp).1 h; rw [hei, hunl] at this; cases this
          by_cases h2 : q < p
          · exfalso
            -- the one before p has come, and so on down
            have hdown : ∀ d, d < p → d + q + 1 ≤ p → p' (ei (p - 1 - d)) = true := by
              intro d
              induction d with
              | zero =>
                intro _ _
                have := pl.chain (p - 1) (by omega)
                rw [show p - 1 + 1 = p by omega, hei] at this
                exact hc'.anc pl.st i hi' _ this (by simp [p'])
              | succ d ihd =>
                intro hd1 hd2
                have hprev := ihd (by omega) (by omega)
                have := pl.chain (p - 1 - (d + 1)) (by omega)
                rw [show p - 1 - (d + 1) + 1 = p - 1 - d by omega] at this
                exact hc'.anc pl.st _ (pl.elt _ (by omega)) _ this hprev
            have := hdown (p - 1 - q) (by omega) (by omega)
            rw [show p - 1 - (p - 1 - q) = q by omega] at this
            simp only [p', Bool.or_eq_true, decide_eq_true_eq] at this
            rcases this with h | h
            · exact absurd ((he q (by omega)).2 h) (Nat.lt_irrefl _)
            · have := pl.mono hp h2
              omega
          · omega
        subst hqp
        rw [heR] at hev
        refine .inl (evE_sound S R (eR_holds F _) hev fun u w' ⟨r2, hu, hx2, hok, R2, K2⟩ => ?_)
        subst hu
        refine ih _ _ _ (q + 1) _ r2 hsz' hc'' hcnt' (by omega) (fun p2 hp2 => ?_) hnew (hx.trans K.next hx2) ((F.ext hx2 K2.next).put (pl.fit i o ho) hok) R2 (K.trans K2)
        rw [hp']
        rcases Nat.lt_trichotomy p2 q with h | h | h
        · have := pl.mono hp h
          have hne : ¬ ei p2 = i := by omega
          simp only [p', hne, decide_false, Bool.or_false]
          exact ⟨fun _ => (he p2 hp2).1 h, fun _ => by omega⟩
        · subst h
          simp only [p', hei, decide_true, Bool.or_true]
          exact ⟨fun _ => trivial, fun _ => by omega⟩
        · have := pl.mono hp2 h
          have hne : ¬ ei p2 = i := by omega
          simp only [p', hne, decide_false, Bool.or_false]
          exact ⟨fun h' => by omega, fun h' => by have := (he p2 hp2).2 h'; omega⟩

/-- The region. -/
theorem wp_of_plan (hm : P.follows .mixedOrders = true) (S : SF B W P cf) (pl : Plan tb cf ops n t0 h0 vs tl hs k ei) {Q : Exit → Act → World → Prop} {r0 : Rho} {a : Act} {w : World} (id : Nat)
    (F : RelF r0 h0.next n t0 a) (R : RelH P B W r0 h0 w)
    (hQ : ∀ r' a' w', Ext h0.next r0 r' → RelF r' (hs k).next n (tl ops.size) a' → RelH P B W r' (hs k) w' → Keeps h0 (hs k) → Q .normal a' w') : (Code.region id ops true).wp P Q a w := by
  have hf : ∀ i, (Array.replicate ops.size false).getD i false = false := fun i => by
    rw [Array.getD_eq_getD_getElem?, Array.getElem?_replicate]; split <;> rfl
  refine wp_region_any hm (any_of_plan S pl hQ _ _ _ _ 0 t0 r0 (by simp) (fun i o _ h => by have h : (Array.replicate ops.size false).getD i false = true := h; rw [hf] at h; cases h) ?_ (Nat.zero_le _) (fun p _ => by rw [hf]; simp) ?_ (Ext.refl _ _) (by rw [pl.h0]; exact F) (by rw [pl.h0]; exact R.drew) (by rw [pl.h0]; exact Keeps.refl _))
  · have : ∀ m, cnt (fun i => (Array.replicate ops.size false).getD i false) m ≤ m := by
      intro m
      induction m with
      | zero => exact Nat.le_refl _
      | succ m ih => simp only [cnt]; split <;> omega
    exact this _
  · intro s
    have : ∀ m, lastW ops vs t0 (fun i => (Array.replicate ops.size false).getD i false) m s = t0.get s := by
      intro m
      induction m with
      | zero => rfl
      | succ m ih => simp only [lastW]; rw [if_neg (by rw [hf]; simp)]; exact ih
    exact (this _).symm

end

mutual
def beqV : V → V → Bool
  | .b x, .b y => x == y
  | .i k n, .i k' n' => decide (k = k') && decide (n = n')
  | .s x, .s y => decide (x = y)
  | .p x, .p y => decide (x = y)
  | .sl x n c o, .sl x' n' c' o' => decide (x = x') && decide (n = n') && decide (c = c') && (o == o')
  | .fn f cs, .fn f' cs' => decide (f = f') && beqL cs cs'
  | .nf, .nf => true
  | .ifc t v, .ifc t' v' => decide (t = t') && beqV v v'
  | .nif, .nif => true
  | .agg l, .agg l' => beqL l l'
  | .tup l, .tup l' => beqL l l'
  | _, _ => false
def beqL : List V → List V → Bool
  | [], [] => true
  | x :: l, y :: l' => beqV x y && beqL l l'
  | _, _ => false
end
mutual
theorem beqV_sound : ∀ (x y : V), beqV x y = true → x = y
  | .b x, y, h => by cases y <;> simp_all [beqV]
  | .i k n, y, h => by cases y <;> simp_all [beqV]
  | .s x, y, h => by cases y <;> simp_all [beqV]
  | .p x, y, h => by cases y <;> simp_all [beqV]
  | .sl x n c o, y, h => by cases y <;> simp_all [beqV]
  | .fn f cs, y, h => by
    cases y <;> simp [beqV] at h
    rw [h.1, beqL_sound _ _ h.2]
  | .nf, y, h => by cases y <;> simp_all [beqV]
  | .ifc t v, y, h => by
    cases y <;> simp [beqV] at h
    rw [h.1, beqV_sound _ _ h.2]
  | .nif, y, h => by cases y <;> simp_all [beqV]
  | .agg l, y, h => by
    cases y <;> simp [beqV] at h
    rw [beqL_sound _ _ h]
  | .tup l, y, h => by
    cases y <;> simp [beqV] at h
    rw [beqL_sound _ _ h]
theorem beqL_sound : ∀ (x y : List V), beqL x y = true → x = y
  | [], y, h => by cases y <;> simp_all [beqL]
  | x :: l, y, h => by
    cases y <;> simp [beqL] at h
    rw [beqV_sound _ _ h.1, beqL_sound _ _ h.2]
end

abbrev Dat := List (V × Option LH)

section
variable {P : Program} (tb : Tb P) (cf : CF)

/-- The order of the text. -/
def lexRun (n : Nat) (ops : Array Oper) : List Oper → T V → LH → Option (Dat × T V × LH)
  | [], t, h => some ([], t, h)
  | o :: l, t, h =>
    if fitK n ops o t then
      match wantV ops o t with
      | true => match evQ tb cf (eR (o.looksAt ops) t) h o.op with
        | some v => match lexRun n ops l (setO t o.dst v) h with
          | some (D, t', h') => some ((v, none) :: D, t', h')
          | none => none
        | none => match evE tb cf (eR (o.looksAt ops) t) h o.op with
          | some (v, h1) => match lexRun n ops l (setO t o.dst v) h1 with
            | some (D, t', h') => some ((v, some h1) :: D, t', h')
            | none => none
          | none => none
      | false => match lexRun n ops l (setO t o.dst (.tup [])) h with
        | some (D, t', h') => some ((.tup [], none) :: D, t', h')
        | none => none
    else none

def effs : Dat → Nat → List (Nat × LH)
  | [], _ => []
  | (_, some h) :: D, i => (i, h) :: effs D (i + 1)
  | (_, none) :: D, i => effs D (i + 1)

def bit (ms : List Nat) (i j : Nat) : Bool := (ms.getD i 0).testBit j
/-- May operation 'i' come when just the first 'q' have been carried out of those that write? -/
def alw (ms : List Nat) (i q : Nat) : List (Nat × LH) → Nat → Bool
  | [], _ => true
  | (e, _) :: l, p => (if p < q then !bit ms e i else !bit ms i e) && alw ms i q l (p + 1)
def eqO (x : Option V) (v : V) : Bool := match x with | some u => beqV u v | none => false
def chkQ (E : List (Nat × LH)) (ms : List Nat) (e : Operand → Option V) (op : Op) (v : V) (i skip : Nat) : List LH → Nat → Bool
  | [], _ => true
  | h :: hs, q => (q == skip || !alw ms i q E 0 || eqO (evQ tb cf e h op) v) && chkQ E ms e op v i skip hs (q + 1)
def chk (ops : Array Oper) (E : List (Nat × LH)) (hs : List LH) (ms : List Nat) : List Oper → Dat → Nat → Nat → T V → Bool
  | o :: l, (v, some _) :: D, i, p, t => chk ops E hs ms l D (i + 1) (p + 1) (setO t o.dst v)
  | o :: l, (v, none) :: D, i, p, t =>
    (match wantV ops o t with
     | true => (match evP tb (eR (o.looksAt ops) t) o.op with
       | some _ => true
       | none => chkQ tb cf E ms (eR (o.looksAt ops) t) o.op v i p hs 0)
     | false => true) && chk ops E hs ms l D (i + 1) p (setO t o.dst v)
  | _, _, _, _, _ => true
def chn (ms : List Nat) : List (Nat × LH) → Bool
  | (a, _) :: (b, h) :: l => bit ms b a && chn ms ((b, h) :: l)
  | _ => true

def evDr (n : Nat) (ops : Array Oper) (t : T V) (h : LH) : Option (T V × LH) :=
  match lexRun tb cf n ops ops.toList t h with
  | none => none
  | some (D, t', h') => match effs D 0 with
    | [] => some (t', h')
    | E => let ms := msks ops.toList []
      if chn ms E then (if chk tb cf ops E (h :: E.map (·.2)) ms ops.toList D 0 0 t then some (t', h') else none) else none

/-! ### That the plan is one -/
def valD (D : Dat) (i : Nat) : V := (D.map (·.1)).getD i (.tup [])
def slots (ops : Array Oper) (D : Dat) (t : T V) : Nat → T V
  | 0 => t
  | i + 1 => setO (slots ops D t i) (dstOf ops i) (valD D i)
theorem slots_get (ops : Array Oper) (D : Dat) (t : T V) : ∀ i s, (slots ops D t i).get s = lastW ops (valD D) t (fun _ => true) i s
  | 0, s => rfl
  | i + 1, s => by
    simp only [slots, lastW]
    rw [← slots_get ops D t i s]
    cases hd : dstOf ops i with
    | none => simp [setO]
    | some d =>
      simp only [setO, T.get_put, Option.some.injEq]
      by_cases e : s = d
      · rw [if_pos e, if_pos ⟨trivial, e.symm⟩]
      · rw [if_neg e, if_neg (fun x => e x.2.symm)]

/-- The memory ahead of an operation, in the order of the text. -/
def heapAt (h : LH) : Dat → Nat → LH
  | [], _ => h
  | _, 0 => h
  | (_, some h1) :: D, i + 1 => heapAt h1 D i
  | (_, none) :: D, i + 1 => heapAt h D i
/-- How many wrote ahead of it. -/
def nEff : Dat → Nat → Nat
  | [], _ => 0
  | _, 0 => 0
  | (_, some _) :: D, i + 1 => nEff D i + 1
  | (_, none) :: D, i + 1 => nEff D i

/-- What the run in the order of the text says of one operation. -/
def Said (n : Nat) (ops : Array Oper) (o : Oper) (t : T V) (h : LH) (d : V × Option LH) : Prop :=
  fitK n ops o t = true ∧
  ((wantV ops o t = false ∧ d = (.tup [], none)) ∨
   (wantV ops o t = true ∧ d.2 = none ∧ evQ tb cf (eR (o.looksAt ops) t) h o.op = some d.1) ∨
   (wantV ops o t = true ∧ ∃ h1, d.2 = some h1 ∧ evE tb cf (eR (o.looksAt ops) t) h o.op = some (d.1, h1)))

theorem lexRun_spec {n : Nat} {ops : Array Oper} : ∀ (l : List Oper) (t : T V) (h : LH) (D : Dat) (t' : T V) (h' : LH), lexRun tb cf n ops l t h = some (D, t', h') →
    D.length = l.length ∧ h' = heapAt h D l.length ∧
    ∀ (f : Nat → T V), f 0 = t → (∀ i o, l[i]? = some o → f (i + 1) = setO (f i) o.dst (valD D i)) → t' = f l.length ∧ ∀ i o, l[i]? = some o → ∃ d, D[i]? = some d ∧ Said tb cf n ops o (f i) (heapAt h D i) d
  | [], t, h, D, t', h', hr => by
    simp only [lexRun, Option.some.injEq, Prod.mk.injEq] at hr
    obtain ⟨rfl, rfl, rfl⟩ := hr
    exact ⟨rfl, rfl, fun f h0 _ => ⟨h0.symm, fun i o h => by simp at h⟩⟩
  | o :: l, t, h, D, t', h', hr => by
    have go : ∀ (v : V) (e : Option LH) (hn : LH) (D1 : Dat), (∀ i, heapAt h ((v, e) :: D1) (i + 1) = heapAt hn D1 i) → D = (v, e) :: D1 → lexRun tb cf n ops l (setO t o.dst v) hn = some (D1, t', h') → Said tb cf n ops o t h (v, e) →
        D.length = (o :: l).length ∧ h' = heapAt h D (o :: l).length ∧
        ∀ (f : Nat → T V), f 0 = t → (∀ i o', (o :: l)[i]? = some o' → f (i + 1) = setO (f i) o'.dst (valD D i)) → t' = f (o :: l).length ∧ ∀ i o', (o :: l)[i]? = some o' → ∃ d, D[i]? = some d ∧ Said tb cf n ops o' (f i) (heapAt h D i) d := by
      intro v e hn D1 hh hD hl hs
      subst hD
      obtain ⟨h1, h2, h3⟩ := lexRun_spec l _ _ _ _ _ hl
      refine ⟨by simp [h1], by rw [List.length_cons, hh]; exact h2, fun f f0 fs => ?_⟩
      have hv0 : valD ((v, e) :: D1) 0 = v := rfl
      have hvs : ∀ i, valD ((v, e) :: D1) (i + 1) = valD D1 i := fun i => by simp [valD]
      obtain ⟨h4, h5⟩ := h3 (fun i => f (i + 1)) (by rw [fs 0 o rfl, f0, hv0]) (fun i o' ho => by rw [fs (i + 1) o' (by simpa using ho), hvs])
      refine ⟨h4, fun i o' ho => ?_⟩
      cases i with
      | zero =>
        simp only [List.getElem?_cons_zero, Option.some.injEq] at ho
        subst ho
        exact ⟨(v, e), rfl, by rw [f0]; cases e <;> exact hs⟩
      | succ i =>
        obtain ⟨d, hd1, hd2⟩ := h5 i o' (by simpa using ho)
        exact ⟨d, by simpa using hd1, by rw [hh]; exact hd2⟩
    simp only [lexRun] at hr
    split at hr
    · next hf =>
      split at hr
      · next hw =>
        split at hr
        · next v hq =>
          split at hr
          · next D1 t1 h1 hl =>
            simp only [Option.some.injEq, Prod.mk.injEq] at hr
            obtain ⟨hD, rfl, rfl⟩ := hr
            exact go v none h D1 (fun i => rfl) hD.symm hl ⟨hf, .inr (.inl ⟨hw, rfl, hq⟩)⟩
          · cases hr
        · next hq =>
          split at hr
          · next v hn he =>
            split at hr
            · next D1 t1 h1 hl =>
              simp only [Option.some.injEq, Prod.mk.injEq] at hr
              obtain ⟨hD, rfl, rfl⟩ := hr
              exact go v (some hn) hn D1 (fun i => rfl) hD.symm hl ⟨hf, .inr (.inr ⟨hw, hn, rfl, he⟩)⟩
            · cases hr
          · cases hr
      · next hw =>
        split at hr
        · next D1 t1 h1 hl =>
          simp only [Option.some.injEq, Prod.mk.injEq] at hr
          obtain ⟨hD, rfl, rfl⟩ := hr
          exact go (.tup []) none h D1 (fun i => rfl) hD.symm hl ⟨hf, .inl ⟨hw, rfl⟩⟩
        · cases hr
    · cases hr

/-- The memory by how many have written. -/
def heapNo (h : LH) (E : List (Nat × LH)) : Nat → LH
  | 0 => h
  | p + 1 => ((E[p]?).map (·.2)).getD h
theorem effs_spec : ∀ (D : Dat) (b : Nat) (h : LH),
    (∀ (p : Nat) (x : Nat × LH), (effs D b)[p]? = some x → b ≤ x.1 ∧ ∃ v, D[x.1 - b]? = some (v, some x.2)) ∧
    (∀ (i : Nat) (v : V) (h1 : LH), D[i]? = some (v, some h1) → (effs D b)[nEff D i]? = some (b + i, h1)) ∧
    (∀ (i : Nat), i ≤ D.length → heapAt h D i = heapNo h (effs D b) (nEff D i) ∧ nEff D i ≤ (effs D b).length)
  | [], b, h => ⟨fun p x hx => by simp [effs] at hx, fun i v h1 hx => by simp at hx, fun i _ => by simp [heapAt, nEff, heapNo]⟩
  | (v, none) :: D, b, h => by
    obtain ⟨h1, h2, h3⟩ := effs_spec D (b + 1) h
    refine ⟨fun p x hx => ?_, fun i v' h' hx => ?_, fun i hi => ?_⟩
    · obtain ⟨h4, v', h5⟩ := h1 p x hx
      refine ⟨by omega, v', ?_⟩
      rw [show x.1 - b = (x.1 - (b + 1)) + 1 by omega]; simpa using h5
    · cases i with
      | zero => simp at hx
      | succ i =>
        have := h2 i v' h' (by simpa using hx)
        simp only [effs, nEff]
        rw [this, show b + 1 + i = b + (i + 1) by omega]
    · cases i with
      | zero => exact ⟨rfl, Nat.zero_le _⟩
      | succ i => exact h3 i (by simpa using hi)
  | (v, some hn) :: D, b, h => by
    obtain ⟨h1, h2, h3⟩ := effs_spec D (b + 1) hn
    refine ⟨fun p x hx => ?_, fun i v' h' hx => ?_, fun i hi => ?_⟩
    · cases p with
      | zero =>
        simp only [effs, List.getElem?_cons_zero, Option.some.injEq] at hx
        subst hx
        exact ⟨Nat.le_refl _, v, by simp⟩
      | succ p =>
        obtain ⟨h4, v', h5⟩ := h1 p x (by simpa [effs] using hx)
        refine ⟨by omega, v', ?_⟩
        rw [show x.1 - b = (x.1 - (b + 1)) + 1 by omega]; simpa using h5
    · cases i with
      | zero =>
        simp only [List.getElem?_cons_zero, Option.some.injEq, Prod.mk.injEq] at hx
        simp [effs, nEff, hx.2]
      | succ i =>
        have := h2 i v' h' (by simpa using hx)
        simp only [effs, nEff, List.getElem?_cons_succ]
        rw [this, show b + 1 + i = b + (i + 1) by omega]
    · cases i with
      | zero => exact ⟨rfl, Nat.zero_le _⟩
      | succ i =>
        obtain ⟨h4, h5⟩ := h3 i (by simpa using hi)
        refine ⟨?_, by simp only [effs, nEff, List.length_cons]; omega⟩
        simp only [heapAt, effs, nEff]
        rw [h4]
        cases hq : nEff D i with
        | zero => simp [heapNo]
        | succ q =>
          simp only [heapNo, List.getElem?_cons_succ]
          have : q < (effs D (b + 1)).length := by omega
          rw [List.getElem?_eq_getElem this]; rfl

end

section
variable {P : Program} {tb : Tb P} {cf : CF} {B : Nat → Prop} {W : World}

theorem nEff_all : ∀ (D : Dat) (b : Nat), nEff D D.length = (effs D b).length
  | [], _ => rfl
  | (_, none) :: D, b => by simp only [List.length_cons, nEff, effs]; exact nEff_all D (b + 1)
  | (_, some _) :: D, b => by simp only [List.length_cons, nEff, effs]; rw [nEff_all D (b + 1)]

theorem alw_mk {ms : List Nat} {i q : Nat} : ∀ (l : List (Nat × LH)) (p : Nat), (∀ (k : Nat) (x : Nat × LH), l[k]? = some x → (p + k < q → bit ms x.1 i = false) ∧ (¬ p + k < q → bit ms i x.1 = false)) → alw ms i q l p = true
  | [], _, _ => rfl
  | (e, hh) :: l, p, h => by
    have h0 := h 0 (e, hh) rfl
    simp only [Nat.add_zero] at h0
    have ih := alw_mk l (p + 1) (fun k x hx => by
      have := h (k + 1) x (by simpa using hx)
      rwa [show p + (k + 1) = p + 1 + k by omega] at this)
    simp only [alw, ih, Bool.and_true]
    by_cases hp : p < q
    · rw [if_pos hp, h0.1 hp]; rfl
    · rw [if_neg hp, h0.2 hp]; rfl

theorem chkQ_spec {E : List (Nat × LH)} {ms : List Nat} {e : Operand → Option V} {op : Op} {v : V} {i skip : Nat} : ∀ (hs : List LH) (q0 : Nat), chkQ tb cf E ms e op v i skip hs q0 = true → ∀ (q : Nat) (h : LH), hs[q]? = some h → q0 + q = skip ∨ alw ms i (q0 + q) E 0 = false ∨ evQ tb cf e h op = some v
  | [], _, _, q, h, hq => by simp at hq
  | h1 :: hs, q0, hc, q, h, hq => by
    simp only [chkQ, Bool.and_eq_true, Bool.or_eq_true] at hc
    cases q with
    | zero =>
      simp only [List.getElem?_cons_zero, Option.some.injEq] at hq
      subst hq
      rcases hc.1 with (h2 | h2) | h2
      · exact .inl (by simpa using h2)
      · exact .inr (.inl (by simpa using h2))
      · refine .inr (.inr ?_)
        unfold eqO at h2
        split at h2
        · next u hu => rw [hu, beqV_sound _ _ h2]
        · cases h2
    | succ q =>
      have := chkQ_spec hs (q0 + 1) hc.2 q h (by simpa using hq)
      rwa [show q0 + 1 + q = q0 + (q + 1) by omega] at this

theorem chk_spec {ops : Array Oper} {E : List (Nat × LH)} {hs : List LH} {ms : List Nat} : ∀ (l : List Oper) (D : Dat) (i p : Nat) (t : T V), chk tb cf ops E hs ms l D i p t = true → D.length = l.length →
    ∀ (f : Nat → T V), f 0 = t → (∀ j o, l[j]? = some o → f (j + 1) = setO (f j) o.dst (valD D j)) → ∀ (j : Nat) (o : Oper) (v : V), l[j]? = some o → D[j]? = some (v, none) → wantV ops o (f j) = true →
      (∃ u, evP tb (eR (o.looksAt ops) (f j)) o.op = some u) ∨ ∀ (q : Nat) (h : LH), hs[q]? = some h → q = p + nEff D j ∨ alw ms (i + j) q E 0 = false ∨ evQ tb cf (eR (o.looksAt ops) (f j)) h o.op = some v
  | [], _, _, _, _, _, _, _, _, _, j, o, v, hl, _, _ => by simp at hl
  | o1 :: l, [], i, p, t, _, hlen, _, _, _, _, _, _, _, _, _ => by simp at hlen
  | o1 :: l, (v1, some h1) :: D, i, p, t, hc, hlen, f, f0, fs, j, o, v, hl, hd, hw => by
    simp only [chk] at hc
    cases j with
    | zero => simp at hd
    | succ j =>
      have := chk_spec l D (i + 1) (p + 1) _ hc (by simpa using hlen) (fun j => f (j + 1)) (by rw [fs 0 o1 rfl, f0]; rfl) (fun j o ho => by rw [fs (j + 1) o (by simpa using ho)]; simp [valD]) j o v (by simpa using hl) (by simpa using hd) hw
      simp only [nEff]
      rwa [show p + 1 + nEff D j = p + (nEff D j + 1) by omega, show i + 1 + j = i + (j + 1) by omega] at this
  | o1 :: l, (v1, none) :: D, i, p, t, hc, hlen, f, f0, fs, j, o, v, hl, hd, hw => by
    simp only [chk, Bool.and_eq_true] at hc
    cases j with
    | zero =>
      simp only [List.getElem?_cons_zero, Option.some.injEq, Prod.mk.injEq, and_true] at hl hd
      subst hl; subst hd
      rw [f0] at hw ⊢
      have h1 := hc.1
      rw [hw] at h1
      simp only at h1
      split at h1
      · next u hu => exact .inl ⟨u, hu⟩
      · refine .inr fun q h hq => ?_
        have := chkQ_spec hs 0 h1 q h hq
        simpa [nEff] using this
    | succ j =>
      have := chk_spec l D (i + 1) p _ hc.2 (by simpa using hlen) (fun j => f (j + 1)) (by rw [fs 0 o1 rfl, f0]; rfl) (fun j o ho => by rw [fs (j + 1) o (by simpa using ho)]; simp [valD]) j o v (by simpa using hl) (by simpa using hd) hw
      simp only [nEff]
      rwa [show i + 1 + j = i + (j + 1) by omega] at this

theorem chn_spec {ms : List Nat} : ∀ (E : List (Nat × LH)), chn ms E = true → ∀ (p : Nat) (a b : Nat × LH), E[p]? = some a → E[p + 1]? = some b → bit ms b.1 a.1 = true
  | [], _, p, a, b, ha, _ => by simp at ha
  | [x], _, p, a, b, _, hb => by simp at hb
  | (x, h0) :: (y, h1) :: l, hc, p, a, b, ha, hb => by
    simp only [chn, Bool.and_eq_true] at hc
    cases p with
    | zero =>
      simp only [List.getElem?_cons_zero, Option.some.injEq, List.getElem?_cons_succ] at ha hb
      subst ha; subst hb
      exact hc.1
    | succ p => exact chn_spec ((y, h1) :: l) hc.2 p a b (by simpa using ha) (by simpa using hb)

theorem evQ_pure {e : Operand → Option V} {h h' : LH} {op : Op} {u v : V} (hp : evP tb e op = some u) (hq : evQ tb cf e h op = some v) : evQ tb cf e h' op = some v := by
  unfold evQ at hq ⊢
  rw [hp] at hq ⊢
  exact hq

theorem evDr_sound (hm : P.follows .mixedOrders = true) (S : SF B W P cf) {n : Nat} {ops : Array Oper} {t t' : T V} {h h' : LH} (hs : statB ops = true) (he : evDr tb cf n ops t h = some (t', h')) {r : Rho} {a : Act} {w : World} (id : Nat)
    (F : RelF r h.next n t a) (R : RelH P B W r h w) {Q : Exit → Act → World → Prop}
    (hQ : ∀ r' a' w', Ext h.next r r' → RelF r' h'.next n t' a' → RelH P B W r' h' w' → Keeps h h' → Q .normal a' w') : (Code.region id ops true).wp P Q a w := by
  unfold evDr at he
  split at he
  · cases he
  · next D t1 h1 hl =>
    obtain ⟨hlen, hh, hspec⟩ := lexRun_spec tb cf ops.toList t h D t1 h1 hl
    have hsz : ops.toList.length = ops.size := by simp
    have hget : ∀ i o, ops.toList[i]? = some o → ops[i]? = some o := fun i o ho => by rw [← Array.getElem?_toList]; exact ho
    obtain ⟨ht1, hsaid⟩ := hspec (slots ops D t) rfl (fun i o ho => by simp only [slots, dstOf, hget i o ho, Option.bind_some])
    obtain ⟨es1, es2, es3⟩ := effs_spec D 0 h
    -- what is left of the checks
    have key : (t1 = t' ∧ h1 = h') ∧ (effs D 0 = [] ∨ (chn (msks ops.toList []) (effs D 0) = true ∧ chk tb cf ops (effs D 0) (h :: (effs D 0).map (·.2)) (msks ops.toList []) ops.toList D 0 0 t = true)) := by
      split at he
      · next hE =>
        simp only [Option.some.injEq, Prod.mk.injEq] at he
        exact ⟨he, .inl hE⟩
      · next hE =>
        simp only at he
        split at he
        · next hc1 =>
          split at he
          · next hc2 =>
            simp only [Option.some.injEq, Prod.mk.injEq] at he
            exact ⟨he, .inr ⟨hc1, hc2⟩⟩
          · cases he
        · cases he
    obtain ⟨⟨rfl, rfl⟩, hck⟩ := key
    have hk : heapNo h (effs D 0) (effs D 0).length = h1 := by
      rw [hh, ← hlen, ← nEff_all D 0]
      exact (es3 D.length (Nat.le_refl _)).1.symm
    have hei : ∀ p, p < (effs D 0).length → ∃ x, (effs D 0)[p]? = some x ∧ (((effs D 0)[p]?).map (·.1)).getD 0 = x.1 := fun p hp => ⟨_, List.getElem?_eq_getElem hp, by rw [List.getElem?_eq_getElem hp]; rfl⟩
    have hhs : ∀ q, q ≤ (effs D 0).length → (h :: (effs D 0).map (·.2))[q]? = some (heapNo h (effs D 0) q) := fun q hq => by
      cases q with
      | zero => rfl
      | succ q =>
        simp only [List.getElem?_cons_succ, List.getElem?_map, heapNo]
        rw [List.getElem?_eq_getElem (by omega)]; rfl
    have pl : Plan tb cf ops n t h (valD D) (slots ops D t) (heapNo h (effs D 0)) (effs D 0).length (fun p => (((effs D 0)[p]?).map (·.1)).getD 0) := by
      refine ⟨hs, fun i o ho => ?_, fun i o ho => ?_, fun i _ s => slots_get ops D t i s, rfl, fun p hp => ?_, fun p hp => ?_, fun i o ho => ?_⟩
      · obtain ⟨d, _, hd⟩ := hsaid i o (by simpa using ho)
        exact fitK_fits hd.1
      · obtain ⟨d, _, hd⟩ := hsaid i o (by simpa using ho)
        exact fitK_know hd.1
      · obtain ⟨x, hx, hx2⟩ := hei p hp
        obtain ⟨_, v, hv⟩ := es1 p x hx
        rw [hx2]
        have := (List.getElem?_eq_some_iff.1 hv).1
        omega
      · obtain ⟨x, hx, hx2⟩ := hei p (by omega)
        obtain ⟨y, hy, hy2⟩ := hei (p + 1) hp
        show anc ops _ _ = true
        rw [hx2, hy2]
        rcases hck with hE | ⟨hc, _⟩
        · rw [hE] at hx; simp at hx
        · exact chn_spec _ hc p x y hx hy
      · obtain ⟨d, hd1, hfit, hd2⟩ := hsaid i o (by simpa using ho)
        have hiD : i < D.length := (List.getElem?_eq_some_iff.1 hd1).1
        have hval : valD D i = d.1 := by simp [valD, hd1]
        have hne : d.2 = none → ∀ p, p < (effs D 0).length → (((effs D 0)[p]?).map (·.1)).getD 0 ≠ i := fun hdn p hp e => by
          obtain ⟨x, hx, hx2⟩ := hei p hp
          obtain ⟨_, v, hv⟩ := es1 p x hx
          rw [hx2] at e
          rw [e, Nat.sub_zero, hd1] at hv
          injection hv with hv
          rw [hv] at hdn; cases hdn
        rcases hd2 with ⟨hw, hdd⟩ | ⟨hw, hdn, hq⟩ | ⟨hw, h2, hds, hev⟩
        · exact .inl ⟨hw, by rw [hval, hdd], hne (by rw [hdd])⟩
        · refine .inr (.inl ⟨hw, hne hdn, fun q hqk ha1 ha2 => ?_⟩)
          have hdv : D[i]? = some (valD D i, none) := by rw [hd1, hval, ← hdn]
          rw [← hval] at hq
          have hlex := (es3 i (Nat.le_of_lt hiD)).1
          by_cases hqi : q = nEff D i
          · rw [hqi, ← hlex]; exact hq
          · rcases hck with hE | ⟨_, hc⟩
            · exfalso
              have := (es3 i (Nat.le_of_lt hiD)).2
              rw [hE] at this hqk
              simp only [List.length_nil] at this hqk
              omega
            · have hp := chk_spec ops.toList D 0 0 t hc hlen (slots ops D t) rfl (fun i o ho => by simp only [slots, dstOf, hget i o ho, Option.bind_some]) i o (valD D i) (by simpa using ho) hdv hw
              rcases hp with ⟨u, hu⟩ | hp
              · exact evQ_pure hu hq
              · rcases hp q _ (hhs q hqk) with h3 | h3 | h3
                · exact absurd (by omega) hqi
                · exfalso
                  have : alw (msks ops.toList []) (0 + i) q (effs D 0) 0 = true := alw_mk _ _ fun k x hx => by
                    have hkl : k < (effs D 0).length := (List.getElem?_eq_some_iff.1 hx).1
                    have hkx : (((effs D 0)[k]?).map (·.1)).getD 0 = x.1 := by rw [hx]; rfl
                    rw [Nat.zero_add, Nat.zero_add]
                    refine ⟨fun h => ?_, fun h => ?_⟩
                    · have := ha1 k h hkl
                      rw [hkx] at this; exact this
                    · have := ha2 k (by omega) hkl
                      rw [hkx] at this; exact this
                  rw [this] at h3; cases h3
                · exact h3
        · have hdv : D[i]? = some (d.1, some h2) := by rw [hd1, ← hds]
          have hE := es2 i d.1 h2 hdv
          rw [Nat.zero_add] at hE
          have hpl : nEff D i < (effs D 0).length := (List.getElem?_eq_some_iff.1 hE).1
          refine .inr (.inr ⟨nEff D i, hpl, by rw [hE]; rfl, hw, ?_⟩)
          rw [← (es3 i (Nat.le_of_lt hiD)).1, hval, hev]
          simp only [heapNo, hE]; rfl
    refine wp_of_plan hm S pl id F R fun r' a' w' he' F' R' K => ?_
    rw [hk] at F' R' K
    exact hQ r' a' w' he' (F'.same fun s => by rw [ht1, hsz]) R' K

/-! ### Code -/
variable (tb)
def evC : Nat → EC
  | 0, _, _, _, _ => none
  | f + 1, n, c, t, h => match c with
    | .skip => some (.n, t, h)
    | .label _ => some (.n, t, h)
    | .region _ ops false => match runOps tb (callW tb (evC f)) n ops ops.toList t h with
      | some (t', h') => some (.n, t', h')
      | none => none
    | .region _ ops true => match evDr tb (callW tb (evC f)) n ops t h with
      | some (t', h') => some (.n, t', h')
      | none => none
    | .seq a b => match evC f n a t h with
      | some (.n, t', h') => evC f n b t' h'
      | x => x
    | .cond c x y => match evO t c with
      | some (.b true) => evC f n x t h
      | some (.b false) => evC f n y t h
      | _ => none
    | .block id c => match evC f n c t h with
      | some (.x id', t', h') => if id' = id then some (.n, t', h') else some (.x id', t', h')
      | x => x
    | .loop c => match evC f n c t h with
      | some (.n, t', h') => evC f n (.loop c) t' h'
      | x => x
    | .exit id => some (.x id, t, h)
    | .ret => some (.r, t, h)
    | _ => none

variable {tb}

/-- Code does what it is told to do; so do its loops. -/
theorem evC_sound (hm : P.follows .mixedOrders = true) : ∀ f, SC B W P (evC tb f) ∧
    ∀ n c t h x t' h', codeB c = true → evC tb f n (.loop c) t h = some (x, t', h') → ∀ r a w, RelF r h.next n t a → RelH P B W r h w → ∀ Q : Exit → Act → World → Prop,
      (∀ r' a' w', Ext h.next r r' → RelF r' h'.next n t' a' → RelH P B W r' h' w' → Keeps h h' → Q (conX x) a' w') → Code.rounds P c Q f a w
  | 0 => ⟨fun n c t h x t' h' _ he => by simp [evC] at he, fun n c t h x t' h' _ he => by simp [evC] at he⟩
  | f + 1 => by
    obtain ⟨S, L⟩ := evC_sound hm f
    have SFc := callW_sound (tb := tb) S
    have loopS : ∀ n c t h x t' h', codeB c = true → evC tb (f + 1) n (.loop c) t h = some (x, t', h') → ∀ r a w, RelF r h.next n t a → RelH P B W r h w → ∀ Q : Exit → Act → World → Prop,
        (∀ r' a' w', Ext h.next r r' → RelF r' h'.next n t' a' → RelH P B W r' h' w' → Keeps h h' → Q (conX x) a' w') → Code.rounds P c Q (f + 1) a w := by
      intro n c t h x t' h' hcb he r a w F R Q hQ
      rw [rounds_succ]
      simp only [evC] at he
      split at he
      · next t1 h1 h2 =>
        refine S n c t h _ t1 h1 hcb h2 r a w F R _ fun r' a' w' hx F' R' K => ?_
        exact L n c t1 h1 x t' h' hcb he r' a' w' F' R' Q fun r2 a2 w2 hx2 F2 R2 K2 => hQ r2 a2 w2 (hx.trans K.next hx2) F2 R2 (K.trans K2)
      · next hne =>
        refine S n c t h x t' h' hcb he r a w F R _ fun r' a' w' hx F' R' K => ?_
        have hq := hQ r' a' w' hx F' R' K
        cases x with
        | n => exact absurd he (hne t' h')
        | x id => exact hq
        | r => exact hq
    refine ⟨?_, loopS⟩
    intro n c t h x t' h' hcb he r a w F R Q hQ
    cases c with
    | skip =>
      simp only [evC, Option.some.injEq, Prod.mk.injEq] at he
      obtain ⟨rfl, rfl, rfl⟩ := he
      exact wp_skip (hQ r a w (Ext.refl _ _) F R (Keeps.refl _))
    | label l =>
      simp only [evC, Option.some.injEq, Prod.mk.injEq] at he
      obtain ⟨rfl, rfl, rfl⟩ := he
      exact wp_label (hQ r a w (Ext.refl _ _) F R (Keeps.refl _))
    | region id ops d =>
      cases d with
      | false =>
        simp only [evC] at he
        split at he
        · next t1 h1 h2 =>
          simp only [Option.some.injEq, Prod.mk.injEq] at he
          obtain ⟨rfl, rfl, rfl⟩ := he
          exact wp_region_list (runOps_sound SFc h2 F R hQ)
        · cases he
      | true =>
        simp only [evC] at he
        split at he
        · next t1 h1 h2 =>
          simp only [Option.some.injEq, Prod.mk.injEq] at he
          obtain ⟨rfl, rfl, rfl⟩ := he
          exact evDr_sound hm SFc hcb h2 id F R hQ
        · cases he
    | seq x1 y1 =>
      simp only [codeB, Bool.and_eq_true] at hcb
      simp only [evC] at he
      refine wp_seq ?_
      split at he
      · next t1 h1 h2 =>
        refine S n x1 t h _ t1 h1 hcb.1 h2 r a w F R _ fun r' a' w' hx F' R' K => ?_
        exact S n y1 t1 h1 x t' h' hcb.2 he r' a' w' F' R' Q fun r2 a2 w2 hx2 F2 R2 K2 => hQ r2 a2 w2 (hx.trans K.next hx2) F2 R2 (K.trans K2)
      · next hne =>
        refine S n x1 t h x t' h' hcb.1 he r a w F R _ fun r' a' w' hx F' R' K => ?_
        have hq := hQ r' a' w' hx F' R' K
        cases x with
        | n => exact absurd he (hne t' h')
        | x id => exact hq
        | r => exact hq
    | cond c x1 y1 =>
      simp only [codeB, Bool.and_eq_true] at hcb
      simp only [evC] at he
      split at he
      · next hc =>
        have := (evO_sound F hc).1
        exact wp_cond_true this (S n x1 t h x t' h' hcb.1 he r a w F R Q hQ)
      · next hc =>
        have := (evO_sound F hc).1
        exact wp_cond_false this (S n y1 t h x t' h' hcb.2 he r a w F R Q hQ)
      · cases he
    | block id c =>
      simp only [codeB] at hcb
      simp only [evC] at he
      refine wp_block ?_
      split at he
      · next id' t1 h1 h2 =>
        refine S n c t h _ t1 h1 hcb h2 r a w F R _ fun r' a' w' hx F' R' K => ?_
        show (if id' = id then Q .normal a' w' else Q (.exit id') a' w')
        split at he
        · next e =>
          simp only [Option.some.injEq, Prod.mk.injEq] at he
          obtain ⟨rfl, rfl, rfl⟩ := he
          rw [if_pos e]
          exact hQ r' a' w' hx F' R' K
        · next e =>
          simp only [Option.some.injEq, Prod.mk.injEq] at he
          obtain ⟨rfl, rfl, rfl⟩ := he
          rw [if_neg e]
          exact hQ r' a' w' hx F' R' K
      · next hne =>
        refine S n c t h x t' h' hcb he r a w F R _ fun r' a' w' hx F' R' K => ?_
        have hq := hQ r' a' w' hx F' R' K
        cases x with
        | n => exact hq
        | x id' => exact absurd he (hne id' t' h')
        | r => exact hq
    | loop c =>
      simp only [codeB] at hcb
      exact wp_loop_rounds (f + 1) (loopS n c t h x t' h' hcb he r a w F R Q hQ)
    | exit id =>
      simp only [evC, Option.some.injEq, Prod.mk.injEq] at he
      obtain ⟨rfl, rfl, rfl⟩ := he
      exact wp_exit (hQ r a w (Ext.refl _ _) F R (Keeps.refl _))
    | ret =>
      simp only [evC, Option.some.injEq, Prod.mk.injEq] at he
      obtain ⟨rfl, rfl, rfl⟩ := he
      exact wp_ret (hQ r a w (Ext.refl _ _) F R (Keeps.refl _))
    | _ => simp [evC] at he

/-- A call of the machine's is a call in the world. -/
def evF (tb : Tb P) (f : Nat) : CF := callW tb (evC tb f)
theorem evF_sound (hm : P.follows .mixedOrders = true) (f : Nat) : SF B W P (evF tb f) := callW_sound (evC_sound hm f).1

/-- The empty memory. -/
def LH.empty : LH := ⟨0, 0, .e⟩
theorem relH_empty (w : World) (r : Rho) : RelH P (· < w.heap.size) w r LH.empty w := by
  have hg : ∀ l, LH.empty.get l = none := fun _ => rfl
  refine ⟨fun _ h => h, Below.refl _ _, Nat.le_refl _, ?_, ?_, ?_, ?_, ?_⟩ <;> intros <;> simp_all

/-- A function without arguments. -/
theorem closed_call {tb : Tb P} (hm : P.follows .mixedOrders = true) (f : Nat) {g : FuncId} {v : V} {h' : LH} (he : evF tb f g [] LH.empty = some (v, h')) {c : Value} (hc : ∀ r, con r v = c) (w : World) :
    Calls P g #[] w (fun e w' => e = .returned c ∧ RowKit.Below w.heap.size w w') := by
  refine (evF_sound hm f g [] LH.empty v h' he (fun _ => (⟨0, 0, none⟩, 0)) w trivial (relH_empty w _)).mono fun e w' ⟨u, he', r', hu, _, _, R, _⟩ => ?_
  exact ⟨by rw [he', hu, hc], R.below.toKit⟩

/-- As a question with one bit for an answer. -/
def saysTrue : Option (V × LH) → Bool
  | some (.b true, _) => true
  | _ => false
theorem closed_true {tb : Tb P} (hm : P.follows .mixedOrders = true) (f : Nat) {g : FuncId} (he : saysTrue (evF tb f g [] LH.empty) = true) (w : World) :
    Calls P g #[] w (fun e w' => e = .returned (.bool true) ∧ RowKit.Below w.heap.size w w') := by
  unfold saysTrue at he
  split at he
  · next h heq => exact closed_call hm f heq (fun _ => rfl) w
  · cases he

/-- A row of the table of methods: a pointer method of a pointer type. -/
theorem meth_row {t e : TypeId} {name : String} {f : FuncId} (h : (P.info? t).bind (fun i => (i.methods.find? (·.name == name)).map fun m => (m.path.isEmpty, m.func)) = some (true, some (f, true)))
    (hu : P.underlying t = some (.pointer e)) (v : Value) (w : World) : (method (P.types.size + Made.depth) t v name).run P w = .ok (f, v) w := by
  cases hi : P.info? t with
  | none => rw [hi] at h; cases h
  | some i =>
    rw [hi] at h
    simp only [Option.bind_some] at h
    cases hm : i.methods.find? (·.name == name) with
    | none => rw [hm] at h; cases h
    | some m =>
      rw [hm] at h
      simp only [Option.map_some, Option.some.injEq, Prod.mk.injEq] at h
      have hp : m.path = #[] := by simpa using h.1
      obtain ⟨k, hk⟩ : ∃ k, P.types.size + Made.depth = k + 1 := ⟨P.types.size + 99, rfl⟩
      rw [hk]
      have hl : m.path.toList = [] := by rw [hp]
      have he : m.path.isEmpty = true := by rw [hp]; rfl
      simp only [method, Sem.run_bind, run_typeInfo hi, Result.andThen_ok, hm, hl, follow, Sem.run_pure, h.2, he, if_true, receiverAt, run_underlying hu, Place.get]

end

section
variable {P : Program} {tb : Tb P}

/-- A call answers so. -/
def FC (P : Program) (g : FuncId) (vs : List V) (h : LH) (v : V) (h' : LH) : Prop := ∀ (B : Nat → Prop) (W : World) (r : Rho) (w : World), okL h.next vs → RelH P B W r h w →
  Calls P g (conL r vs).toArray w (fun e w' => ∃ u, e = .returned u ∧ Leaves P B W r h v h' u w')
/-- Code goes so. -/
def CC (P : Program) (n : Nat) (c : Code) (t : T V) (h : LH) (x : Ex) (t' : T V) (h' : LH) : Prop := ∀ (B : Nat → Prop) (W : World) (r : Rho) (a : Act) (w : World), RelF r h.next n t a → RelH P B W r h w → ∀ Q : Exit → Act → World → Prop,
  (∀ r' a' w', Ext h.next r r' → RelF r' h'.next n t' a' → RelH P B W r' h' w' → Keeps h h' → Q (conX x) a' w') → c.wp P Q a w
/-- The rounds of a loop go so. -/
def LC (P : Program) (n : Nat) (c : Code) (t : T V) (h : LH) (x : Ex) (t' : T V) (h' : LH) : Prop := ∃ m, ∀ (B : Nat → Prop) (W : World) (r : Rho) (a : Act) (w : World), RelF r h.next n t a → RelH P B W r h w → ∀ Q : Exit → Act → World → Prop,
  (∀ r' a' w', Ext h.next r r' → RelF r' h'.next n t' a' → RelH P B W r' h' w' → Keeps h h' → Q (conX x) a' w') → Code.rounds P c Q m a w

theorem FC.ev (hm : P.follows .mixedOrders = true) {f : Nat} {g : FuncId} {vs : List V} {h h' : LH} {v : V} (he : evF tb f g vs h = some (v, h')) : FC P g vs h v h' :=
  fun _ _ r w hok R => evF_sound hm f g vs h v h' he r w hok R
theorem CC.ev (hm : P.follows .mixedOrders = true) {f n : Nat} {c : Code} {t t' : T V} {h h' : LH} {x : Ex} (hc : codeB c = true) (he : evC tb f n c t h = some (x, t', h')) : CC P n c t h x t' h' :=
  fun _ _ r a w F R Q hQ => (evC_sound hm f).1 n c t h x t' h' hc he r a w F R Q hQ

theorem FC.body {g : FuncId} {fn : Func} {c : Code} {vs : List V} {h h' : LH} {t' : T V} {x : Ex} {v : V} (hf : P.funcs[g]? = some fn) (hb : fn.body = some c)
    (hc : CC P (vs.length + (fn.ntmps - vs.length)) c (argT vs 0 .e) h x t' h') (hx : x = .n ∨ x = .r) (hv : resV tb t' h' fn.results.toList = some v) : FC P g vs h v h' := by
  intro B W r w hok R
  have F0 := relF_args r h.next fn.ntmps vs hok
  refine calls_of_wp hf hb (hc B W r _ w F0 R _ fun r' a' w' he' F' R' K => ?_)
  obtain ⟨g1, g2⟩ := resV_sound F' R' hv
  rcases hx with rfl | rfl
  · exact bodyPost_end g1 F'.defers ⟨_, rfl, r', rfl, he', g2, R', K⟩
  · exact bodyPost_ret g1 F'.defers ⟨_, rfl, r', rfl, he', g2, R', K⟩

variable {n : Nat} {t t1 t' : T V} {h h1 h' : LH} {x : Ex}
theorem CC.seq {a b : Code} (k1 : CC P n a t h .n t1 h1) (k2 : CC P n b t1 h1 x t' h') : CC P n (.seq a b) t h x t' h' := fun B W r ac w F R Q hQ =>
  wp_seq (k1 B W r ac w F R _ fun r' a' w' hx F' R' K => k2 B W r' a' w' F' R' Q fun r2 a2 w2 hx2 F2 R2 K2 => hQ r2 a2 w2 (hx.trans K.next hx2) F2 R2 (K.trans K2))
theorem CC.seq_out {a b : Code} (k1 : CC P n a t h x t' h') (hn : x ≠ .n) : CC P n (.seq a b) t h x t' h' := fun B W r ac w F R Q hQ =>
  wp_seq (k1 B W r ac w F R _ fun r' a' w' hx F' R' K => by
    have hq := hQ r' a' w' hx F' R' K
    cases x with
    | n => exact absurd rfl hn
    | x id => exact hq
    | r => exact hq)
theorem CC.cond {c : Operand} {a b : Code} {q : Bool} (hc : evO t c = some (.b q)) (k1 : CC P n (if q then a else b) t h x t' h') : CC P n (.cond c a b) t h x t' h' := fun B W r ac w F R Q hQ => by
  have := (evO_sound F hc).1
  cases q with
  | true => exact wp_cond_true this (k1 B W r ac w F R Q hQ)
  | false => exact wp_cond_false this (k1 B W r ac w F R Q hQ)
theorem CC.block {id : Nat} {c : Code} (k1 : CC P n c t h x t' h') (hx : ∀ i, x = .x i → i ≠ id) : CC P n (.block id c) t h x t' h' := fun B W r ac w F R Q hQ =>
  wp_block (k1 B W r ac w F R _ fun r' a' w' he F' R' K => by
    have hq := hQ r' a' w' he F' R' K
    cases x with
    | n => exact hq
    | x i => show (if i = id then _ else _); rw [if_neg (hx i rfl)]; exact hq
    | r => exact hq)
theorem CC.block_out {id : Nat} {c : Code} (k1 : CC P n c t h (.x id) t' h') : CC P n (.block id c) t h .n t' h' := fun B W r ac w F R Q hQ =>
  wp_block (k1 B W r ac w F R _ fun r' a' w' he F' R' K => by
    have hq := hQ r' a' w' he F' R' K
    show (if id = id then _ else _); rw [if_pos rfl]; exact hq)
theorem CC.skip : CC P n .skip t h .n t h := fun _ _ r a w F R _ hQ => wp_skip (hQ r a w (Ext.refl _ _) F R (Keeps.refl _))
theorem CC.exit {id : Nat} : CC P n (.exit id) t h (.x id) t h := fun _ _ r a w F R _ hQ => wp_exit (hQ r a w (Ext.refl _ _) F R (Keeps.refl _))
theorem CC.ret : CC P n .ret t h .r t h := fun _ _ r a w F R _ hQ => wp_ret (hQ r a w (Ext.refl _ _) F R (Keeps.refl _))

theorem LC.more {c : Code} (k1 : CC P n c t h .n t1 h1) (k2 : LC P n c t1 h1 x t' h') : LC P n c t h x t' h' := by
  obtain ⟨m, k2⟩ := k2
  refine ⟨m + 1, fun B W r ac w F R Q hQ => ?_⟩
  rw [rounds_succ]
  exact k1 B W r ac w F R _ fun r' a' w' hx F' R' K => k2 B W r' a' w' F' R' Q fun r2 a2 w2 hx2 F2 R2 K2 => hQ r2 a2 w2 (hx.trans K.next hx2) F2 R2 (K.trans K2)
theorem LC.stop {c : Code} (k1 : CC P n c t h x t' h') (hn : x ≠ .n) : LC P n c t h x t' h' := by
  refine ⟨1, fun B W r ac w F R Q hQ => ?_⟩
  rw [rounds_succ]
  exact k1 B W r ac w F R _ fun r' a' w' hx F' R' K => by
    have hq := hQ r' a' w' hx F' R' K
    cases x with
    | n => exact absurd rfl hn
    | x id => exact hq
    | r => exact hq
theorem CC.loop {c : Code} (k1 : LC P n c t h x t' h') : CC P n (.loop c) t h x t' h' := fun B W r ac w F R Q hQ => by
  obtain ⟨m, k1⟩ := k1
  exact wp_loop_rounds m (k1 B W r ac w F R Q hQ)

/-- Calls that are known to answer so. -/
def Good (P : Program) (cf : CF) : Prop := ∀ g vs h v h', cf g vs h = some (v, h') → FC P g vs h v h'
theorem Good.SF {cf : CF} (hg : Good P cf) (B : Nat → Prop) (W : World) : SF B W P cf := fun g vs h v h' hc r w hok R => hg g vs h v h' hc B W r w hok R
theorem Good.ev (hm : P.follows .mixedOrders = true) (f : Nat) : Good P (evF tb f) := fun _ _ _ _ _ hc => FC.ev hm hc
def noCalls : CF := fun _ _ _ => none
theorem good_none : Good P noCalls := fun _ _ _ _ _ hc => by cases hc
open Classical in
/-- One call, known to answer so. -/
noncomputable def oneCall (g : FuncId) (vs : List V) (h : LH) (v : V) (h' : LH) (cf : CF) : CF := fun g' vs' h0 => if g' = g ∧ vs' = vs ∧ h0 = h then some (v, h') else cf g' vs' h0
theorem good_one {g : FuncId} {vs : List V} {v : V} {cf : CF} (hf : FC P g vs h v h') (hg : Good P cf) : Good P (oneCall g vs h v h' cf) := fun g' vs' h0 v0 h0' hc => by
  unfold oneCall at hc
  split at hc
  · next e =>
    obtain ⟨rfl, rfl, rfl⟩ := e
    simp only [Option.some.injEq, Prod.mk.injEq] at hc
    obtain ⟨rfl, rfl⟩ := hc
    exact hf
  · exact hg _ _ _ _ _ hc

theorem CC.region {cf : CF} {id : Nat} {ops : Array Oper} (hg : Good P cf) (he : runOps tb cf n ops ops.toList t h = some (t', h')) : CC P n (.region id ops false) t h .n t' h' := fun B W r a w F R Q hQ =>
  wp_region_list (runOps_sound (hg.SF B W) he F R hQ)
theorem CC.draw (hm : P.follows .mixedOrders = true) {cf : CF} {id : Nat} {ops : Array Oper} (hg : Good P cf) (hs : statB ops = true) (he : evDr tb cf n ops t h = some (t', h')) : CC P n (.region id ops true) t h .n t' h' := fun B W r a w F R Q hQ =>
  evDr_sound hm (hg.SF B W) hs he id F R hQ

/-! ### A call that only reads -/
/-- No number of a block stands in a value. -/
def plainV (v : V) : Prop := okV 0 v
theorem con_plain {v : V} (h : plainV v) (r r' : Rho) : con r v = con r' v := con_ext (n := 0) (r := r') (r' := r) (fun l hl => absurd hl (Nat.not_lt_zero _)) v h

/-- Where the blocks of a small memory lie in a greater one. -/
def via (s : Nat → Nat × Nat) (r : Rho) : Rho := fun l => ((r (s l).1).1.add (s l).2, (r (s l).1).2)

theorem FC.reads {g : FuncId} {vs0 vs : List V} {hs hs' h : LH} {v : V} (s : Nat → Nat × Nat) (h0 : FC P g vs0 hs v hs') (hro : hs.ro ≤ hs.next)
    (hb : ∀ l b, hs.get l = some b → l < hs.next ∧ b.own = false ∧ ∀ j u, b.cells[j]? = some u → plainV u ∧ ∃ b', h.get (s l).1 = some b' ∧ b'.cells[(s l).2 + j]? = some u)
    (hvs : ∀ r, conL (via s r) vs0 = conL r vs) (hok : okL hs.next vs0) (hv : plainV v) : FC P g vs h v h := by
  intro B W r w _ R
  have R0 : RelH P (· < w.heap.size) w (via s r) hs w := by
    refine ⟨fun _ h => h, Below.refl _ _, hro, fun l b hl => (hb l b hl).1, fun l b hl => ?_, fun l b hl _ j u hj => ?_, fun l b hl ho => ?_, fun l l' b b' hl ho => ?_⟩
    · refine (okL_iff _ _).2 fun u hu => ?_
      obtain ⟨j, hj⟩ := List.getElem?_of_mem hu
      exact okV_mono (Nat.zero_le _) u ((hb l b hl).2.2 j u hj).1
    · obtain ⟨hp, b', hb', hj'⟩ := (hb l b hl).2.2 j u hj
      have hc := R.cell hb' hj'
      have ha : ((via s r) l).1.add j = (r (s l).1).1.add ((s l).2 + j) := add_add _ _ _
      have hbk : ((via s r) l).1.block = ((r (s l).1).1.add ((s l).2 + j)).block := by
        simp only [via, Addr.add]
        split <;> split <;> rfl
      rw [ha, con_plain hp (via s r) r]
      exact ⟨by rw [hbk]; exact World.block_lt_of_cell? _ _ hc, hc⟩
    · rw [(hb l b hl).2.1] at ho; cases ho
    · rw [(hb l b hl).2.1] at ho; cases ho
  have := h0 (· < w.heap.size) w (via s r) w hok R0
  rw [hvs r] at this
  refine this.mono fun e w' ⟨u, he, r', hu, _, _, R', _⟩ => ⟨u, he, r, ?_, Ext.refl _ _, okV_mono (Nat.zero_le _) v hv, R.later R'.below, Keeps.refl _⟩
  rw [hu, con_plain hv r' r]

end

end Go.Proofs.Ytnogdgdkeojlpaa.Am
