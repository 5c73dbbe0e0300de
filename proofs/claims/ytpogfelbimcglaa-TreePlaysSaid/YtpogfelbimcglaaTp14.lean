/- Functions of the tree and of the law TreePlays, walked. Conditions: those of each theorem. -/
import Derived.Test.YtpogfelbimcglaaAm5
import Derived.Test.YtpogfelbimcglaaTp13
namespace Go.Proofs.Ytpogfelbimcglaa.Am
open Go.Proofs
set_option maxRecDepth 1000000
set_option maxHeartbeats 4000000
set_option linter.unusedSimpArgs false
set_option linter.unusedVariables false
theorem pl_delok_row (size : Nat) (l : List Act) (c i : Nat) (ask : Int) (s : TS) (op lba len phys : Int) (b : Bool) (H : TOk size s) (hl : l.length ≤ 120) (h1 : 1 ≤ size) (h2 : size ≤ 60) (hx : l[i]? = some ⟨op, lba, len, phys⟩) (ho : op = 1) (hg : (getL lba s.T.ino).isSome = true) (hrow : ∃ x t, runsT s.T = x :: t ∧ t.length + 1 = s.n) :
    WS Try.prog (frameN Try.f4 3) 1 [.c (k1 (k1 (k2 (k1 (k2 (k2 (k2 (k2 (k2 (k2 (k2 (kb Try.f4))))))))))))] (slt (SSp size l c ask (i, s, b))) (mem 0 (MMp l (i, s, b))) (PostP size l c ask (i, s, b)) := by
  obtain ⟨j, x, hk, hjx, hxa⟩ := atL_yes hg
  have hjn : j < s.n := by have := (List.getElem?_eq_some_iff.1 hjx).1; rw [runsT_len] at this; exact this
  by_cases h1n : s.n = 1
  · exact pl_delok_last size l c i ask s op lba len phys b H hl h1 h2 hx ho hg hrow h1n
  · rcases Nat.eq_zero_or_pos j with rfl | hj0
    · exact pl_delok_first size l c i ask s op lba len phys b H hl h1 h2 hx ho hg hrow (by omega) hk hjx hxa
    · by_cases hje : j + 1 = s.n
      · exact pl_delok_end size l c i ask s op lba len phys b H hl h1 h2 hx ho hg hrow j hj0 hje hk hjx hxa
      · exact pl_delok_mid size l c i ask s op lba len phys b H hl h1 h2 hx ho hg hrow j hj0 (by omega) hk hjx hxa
theorem pl_body (size : Nat) (l : List Act) (c : Nat) (ask : Int) (hl : l.length ≤ 120) (h1 : 1 ≤ size) (h2 : size ≤ 60) (a : StP) (H : InvP size l.length a) :
    WS Try.prog (frameN Try.f4 3) 1 [.c (k1 (k1 (k2 (k1 (k2 (k2 (k2 (k2 (k2 (k2 (k2 (kb Try.f4))))))))))))] (slt (SSp size l c ask a)) (mem 0 (MMp l a)) (PostP size l c ask a) := by
  obtain ⟨i, s, b⟩ := a
  obtain ⟨hi, H⟩ := H
  dsimp only at hi H
  by_cases h : i < l.length
  · obtain ⟨x, hx⟩ : ∃ x, l[i]? = some x := ⟨_, List.getElem?_eq_getElem h⟩
    obtain ⟨op, lba, len, phys⟩ := x
    have hle := H.le
    rcases tr_cases H with ⟨hT, hn0, hr0⟩ | ⟨hn, hrow⟩
    · have hg : getL lba s.T.ino = none := by rw [hT]; rfl
      by_cases h0 : op = 0
      · cases b with
        | false => exact pl_insok_none size l c i ask s op lba len phys H hl h1 h2 hx h0 hg (by omega) hT
        | true => exact pl_insok_some size l c i ask s op lba len phys H hl h1 h2 hx h0 hg (by omega) hT
      · by_cases h3 : op = 1
        · cases b with
          | false => exact pl_delno_none size l c i ask s op lba len phys H hl h1 h2 hx h3 hg hT
          | true => exact pl_delno_some size l c i ask s op lba len phys H hl h1 h2 hx h3 hg hT
        · by_cases h4 : op = 2
          · cases b with
            | false => exact pl_chgno_none size l c i ask s op lba len phys H hl h1 h2 hx h4 hg hT
            | true => exact pl_chgno_some size l c i ask s op lba len phys H hl h1 h2 hx h4 hg hT
          · cases b with
            | false => exact pl_other_none size l c i ask s op lba len phys H hl h1 h2 hx ⟨h0, h3, h4⟩ hT
            | true => exact pl_other_some size l c i ask s op lba len phys H hl h1 h2 hx ⟨h0, h3, h4⟩ hT
    · by_cases h0 : op = 0
      · cases hg : getL lba s.T.ino with
        | none =>
          by_cases hf : s.n = size
          · exact pl_insfull_row size l c i ask s op lba len phys b H hl h1 h2 hx h0 hg hf hrow
          · exact pl_insok_row size l c i ask s op lba len phys b H hl h1 h2 hx h0 hg (by omega) hrow
        | some y => exact pl_insdup_row size l c i ask s op lba len phys b H hl h1 h2 hx h0 (by rw [hg]; rfl) hrow
      · by_cases h3 : op = 1
        · cases hg : getL lba s.T.ino with
          | none => exact pl_delno_row size l c i ask s op lba len phys b H hl h1 h2 hx h3 hg hrow
          | some y => exact pl_delok_row size l c i ask s op lba len phys b H hl h1 h2 hx h3 (by rw [hg]; rfl) hrow
        · by_cases h4 : op = 2
          · cases hg : getL lba s.T.ino with
            | none => exact pl_chgno_row size l c i ask s op lba len phys b H hl h1 h2 hx h4 hg hrow
            | some y => exact pl_chgok_row size l c i ask s op lba len phys b H hl h1 h2 hx h4 (by rw [hg]; rfl) hrow
          · exact pl_other_row size l c i ask s op lba len phys b H hl h1 h2 hx ⟨h0, h3, h4⟩ hrow
  · rcases tr_cases H with ⟨hT, hn0, hr0⟩ | ⟨hn, x0, t0, hr0, ht0⟩
    · cases b with
      | false =>
        simp only [SSp, MMp, MP, wV, bW, hr0]
        iterate 2 refine jq ?_
        refine jg ?_
        iterate 3 refine jo ?_
        refine jDF ?_
        refine je ?_
        refine WS.pcondF rfl rfl ?_
        refine WS.pout rfl rfl ?_
        exact ⟨rfl, (), trivial, (jSn [0] (by simp [jVb, jOb, jMb, mapL_cellsR, okL_cellsR]) (by simp only [jSl, jOb, jMb, Nat.reduceAdd, Nat.reduceLT] <;> exact jClo))⟩
      | true =>
        simp only [SSp, MMp, MP, wV, bW, hr0]
        iterate 2 refine jq ?_
        refine jg ?_
        iterate 3 refine jo ?_
        refine jDF ?_
        refine je ?_
        refine WS.pcondF rfl rfl ?_
        refine WS.pout rfl rfl ?_
        exact ⟨rfl, (), trivial, (jSn [0] (by simp [jVb, jOb, jMb, mapL_cellsR, okL_cellsR]) (by simp only [jSl, jOb, jMb, Nat.reduceAdd, Nat.reduceLT] <;> exact jClo))⟩
    · simp only [SSp, MMp, MP, wV, bW, hr0]
      iterate 2 refine jq ?_
      refine jg ?_
      iterate 3 refine jo ?_
      refine jDF ?_
      refine je ?_
      refine WS.pcondF rfl rfl ?_
      refine WS.pout rfl rfl ?_
      exact ⟨rfl, (), trivial, (jSn [0] (by simp [jVb, jOb, jMb, mapL_cellsR, okL_cellsR]) (by simp only [jSl, jOb, jMb, Nat.reduceAdd, Nat.reduceLT] <;> exact jClo))⟩
theorem plays_main (size : Nat) (l : List Act) (c : Nat) (ask : Int) (h1 : 1 ≤ size) (h2 : size ≤ 60) (hl : l.length ≤ 120) :
    FM Try.prog 4 [.i .i64 size, .sl (some (0,0)) l.length c false, .i .i64 ask] [some ⟨cellsR rwAct l, 42, false⟩] (fun v _ => v = .b true) := by
  refine FM.pbody (tb := tb) (fn := Try.f4) rfl rfl ?_
  simp only [argS, Nat.reduceAdd, List.length_cons, List.length_nil]
  refine jq ?_
  refine jg ?_
  refine jo ?_
  refine je ?_
  iterate 2 refine jq ?_
  refine jg ?_
  refine jc [] awake_fm (by simp [jOb, arM, trM]) (by simp [jEb, jOb, jMb, mapL_cellsR, okL_cellsR, arM, trM]) ?_; rintro _ _ ⟨rfl, rfl⟩ -; simp only [jPg, jMb, ll, Nat.reduceAdd, Nat.reduceLT, Nat.zero_add, if_true, if_false, Nat.reduceSub, reduceIte, mapL_cellsR, Nat.lt_irrefl, Nat.not_lt_zero, Nat.zero_lt_succ, Nat.lt_add_one, arM, trM]
  refine jB false ?_
  refine je ?_
  refine WS.pcondF rfl rfl ?_
  refine WS.pskip rfl ?_
  iterate 2 refine jq ?_
  refine jg ?_
  refine jo ?_
  refine jDF ?_
  iterate 2 refine jo ?_
  refine jDF ?_
  iterate 4 refine jo ?_
  refine jDF ?_
  refine jo ?_
  refine je ?_
  refine WS.pcondF rfl rfl ?_
  refine WS.pskip rfl ?_
  refine jq ?_
  refine jg ?_
  refine jo ?_
  refine jc [] (ar_new_ok size h1 (by omega)) (by simp [jOb, arM, trM]) (by simp [jEb, jOb, jMb, mapL_cellsR, okL_cellsR, arM, trM]) ?_; rintro _ _ ⟨rfl, rfl⟩ -; simp only [jPg, jMb, ll, Nat.reduceAdd, Nat.reduceLT, Nat.zero_add, if_true, if_false, Nat.reduceSub, reduceIte, mapL_cellsR, Nat.lt_irrefl, Nat.not_lt_zero, Nat.zero_lt_succ, Nat.lt_add_one, arM, trM]
  iterate 5 refine jo ?_
  refine je ?_
  iterate 2 refine jq ?_
  refine jg ?_
  refine jo ?_
  refine jB false ?_
  refine je ?_
  refine WS.pcondF rfl rfl ?_
  refine WS.pskip rfl ?_
  refine jq ?_
  refine jg ?_
  refine jo ?_
  refine jc [1,2] (tnew_walk (iniP size size) 1 0) (by simp [jOb, arM, trM]) (by simp [jEb, jOb, jMb, mapL_cellsR, okL_cellsR, arM, trM]) ?_; rintro _ _ ⟨rfl, rfl⟩ -; simp only [jPg, jMb, ll, Nat.reduceAdd, Nat.reduceLT, Nat.zero_add, if_true, if_false, Nat.reduceSub, reduceIte, mapL_cellsR, Nat.lt_irrefl, Nat.not_lt_zero, Nat.zero_lt_succ, Nat.lt_add_one, arM, trM]
  refine jo ?_
  refine je ?_
  refine jq ?_
  refine jg ?_
  refine jo ?_
  refine je ?_
  iterate 2 refine jq ?_
  refine jg ?_
  refine jo ?_
  refine je ?_
  refine WS.pblock rfl ?_
  refine WS.ploopI (σ := StP) (τ := Unit) (SSp size l c ask) (MMp l) (InvP size l.length) (fun s => l.length - s.1) (fun _ => []) (fun _ => [some ⟨cellsR rwAct l, 42, false⟩]) (fun _ => True) 0 [0,1,2,3,4] (0, ⟨iniP size size, 1, .lf⟩, false) rfl ⟨Nat.zero_le _, newS_ok size h1⟩ (jSb (by simp [jVb, jOb, jMb, mapL_cellsR, okL_cellsR, SSp, MMp, MP, wV, bW, runsT, Tr.ino, TS.n, ids_lf, id_lf, List.map_nil]) (by simp only [jSl, jOb, jMb, Nat.reduceAdd, Nat.reduceLT, SSp, MMp, MP, wV, bW, runsT, Tr.ino, TS.n, ids_lf, id_lf, List.map_nil] <;> exact jClo)) rfl ?_ ?_
  · intro s H
    refine WE.mono (fun x t' h' hq => ?_) (pl_body size l c ask hl h1 h2 s H)
    cases x with
    | n => exact hq
    | x j => exact hq
    | r => exact hq.elim
  · rintro _ -
    refine jq ?_
    refine jg ?_
    refine jo ?_
    refine je ?_
    refine WS.pret rfl ⟨.inr rfl, _, rfl, ?_⟩
    exact ⟨_, rfl, rfl⟩
theorem plays_empty (size : Nat) (c : Nat) (ask : Int) (h1 : 1 ≤ size) (h2 : size ≤ 60) :
    FM Try.prog 4 [.i .i64 size, .sl none 0 c false, .i .i64 ask] [some ⟨cellsR rwAct [], 42, false⟩] (fun v _ => v = .b true) := by
  refine FM.pbody (tb := tb) (fn := Try.f4) rfl rfl ?_
  simp only [argS, Nat.reduceAdd, List.length_cons, List.length_nil]
  refine jq ?_
  refine jg ?_
  refine jo ?_
  refine je ?_
  iterate 2 refine jq ?_
  refine jg ?_
  refine jc [] awake_fm (by simp [jOb, arM, trM]) (by simp [jEb, jOb, jMb, mapL_cellsR, okL_cellsR, arM, trM]) ?_; rintro _ _ ⟨rfl, rfl⟩ -; simp only [jPg, jMb, ll, Nat.reduceAdd, Nat.reduceLT, Nat.zero_add, if_true, if_false, Nat.reduceSub, reduceIte, mapL_cellsR, Nat.lt_irrefl, Nat.not_lt_zero, Nat.zero_lt_succ, Nat.lt_add_one, arM, trM]
  refine jB false ?_
  refine je ?_
  refine WS.pcondF rfl rfl ?_
  refine WS.pskip rfl ?_
  iterate 2 refine jq ?_
  refine jg ?_
  refine jo ?_
  refine jDF ?_
  iterate 2 refine jo ?_
  refine jDF ?_
  iterate 4 refine jo ?_
  refine jB false ?_
  refine jo ?_
  refine je ?_
  refine WS.pcondF rfl rfl ?_
  refine WS.pskip rfl ?_
  refine jq ?_
  refine jg ?_
  refine jo ?_
  refine jc [] (ar_new_ok size h1 (by omega)) (by simp [jOb, arM, trM]) (by simp [jEb, jOb, jMb, mapL_cellsR, okL_cellsR, arM, trM]) ?_; rintro _ _ ⟨rfl, rfl⟩ -; simp only [jPg, jMb, ll, Nat.reduceAdd, Nat.reduceLT, Nat.zero_add, if_true, if_false, Nat.reduceSub, reduceIte, mapL_cellsR, Nat.lt_irrefl, Nat.not_lt_zero, Nat.zero_lt_succ, Nat.lt_add_one, arM, trM]
  iterate 5 refine jo ?_
  refine je ?_
  iterate 2 refine jq ?_
  refine jg ?_
  refine jo ?_
  refine jB false ?_
  refine je ?_
  refine WS.pcondF rfl rfl ?_
  refine WS.pskip rfl ?_
  refine jq ?_
  refine jg ?_
  refine jo ?_
  refine jc [1,2] (tnew_walk (iniP size size) 1 0) (by simp [jOb, arM, trM]) (by simp [jEb, jOb, jMb, mapL_cellsR, okL_cellsR, arM, trM]) ?_; rintro _ _ ⟨rfl, rfl⟩ -; simp only [jPg, jMb, ll, Nat.reduceAdd, Nat.reduceLT, Nat.zero_add, if_true, if_false, Nat.reduceSub, reduceIte, mapL_cellsR, Nat.lt_irrefl, Nat.not_lt_zero, Nat.zero_lt_succ, Nat.lt_add_one, arM, trM]
  refine jo ?_
  refine je ?_
  refine jq ?_
  refine jg ?_
  refine jo ?_
  refine je ?_
  iterate 2 refine jq ?_
  refine jg ?_
  refine jo ?_
  refine je ?_
  refine WS.pblock rfl ?_
  refine WS.ploopI (σ := Unit) (τ := Unit) (fun _ => [(1, .sl none 0 c false), (11, .i .i64 0)]) (fun _ => [some ⟨cellsR rwAct [], 42, false⟩]) (fun _ => True) (fun _ => 0) (fun _ => []) (fun _ => [some ⟨cellsR rwAct [], 42, false⟩]) (fun _ => True) 0 [0] () rfl trivial (jSb (by simp [jVb, jOb, jMb, mapL_cellsR, okL_cellsR]) (by simp only [jSl, jOb, jMb, Nat.reduceAdd, Nat.reduceLT] <;> exact jClo)) rfl ?_ ?_
  · rintro ⟨⟩ -
    iterate 2 refine jq ?_
    refine jg ?_
    iterate 3 refine jo ?_
    refine jB false ?_
    refine je ?_
    refine WS.pcondF rfl rfl ?_
    refine WS.pout rfl rfl ?_
    exact ⟨rfl, (), trivial, (jSn [0] (by simp [jVb, jOb, jMb, mapL_cellsR, okL_cellsR]) (by simp only [jSl, jOb, jMb, Nat.reduceAdd, Nat.reduceLT] <;> exact jClo))⟩
  · rintro _ -
    refine jq ?_
    refine jg ?_
    refine jo ?_
    refine je ?_
    refine WS.pret rfl ⟨.inr rfl, _, rfl, ?_⟩
    exact ⟨_, rfl, rfl⟩
theorem plays_far (z : Int) (l : List Act) (a : Option (Nat × Nat)) (c : Nat) (ask : Int) (h : z < 1 ∨ 60 < z ∨ 120 < l.length) (hl : l.length ≤ 9223372036854775807) :
    FM Try.prog 4 [.i .i64 z, .sl a l.length c false, .i .i64 ask] [some ⟨cellsR rwAct l, 42, false⟩] (fun v _ => v = .b true) := by
  refine FM.pbody (tb := tb) (fn := Try.f4) rfl rfl ?_
  simp only [argS, Nat.reduceAdd, List.length_cons, List.length_nil]
  focus
    refine jq ?_
    refine jg ?_
    refine jo ?_
    refine je ?_
    iterate 2 refine jq ?_
    refine jg ?_
    refine jc [] awake_fm (by simp [jOb]) (by simp [jEb, jOb, jMb, mapL_cellsR, okL_cellsR]) ?_; rintro _ _ ⟨rfl, rfl⟩ -; simp only [jPg, jMb, ll, Nat.reduceAdd, Nat.reduceLT, Nat.zero_add, if_true, if_false, Nat.reduceSub, reduceIte, mapL_cellsR, Nat.lt_irrefl, Nat.not_lt_zero, Nat.zero_lt_succ, Nat.lt_add_one]
    refine jB false ?_
    refine je ?_
    refine WS.pcondF rfl rfl ?_
    refine WS.pskip rfl ?_
    iterate 2 refine jq ?_
    refine jg ?_
    refine jo ?_
    refine WS.poDS (tb := tb) rfl rfl rfl rfl rfl (fun hb__ => ?_) (fun hb__ => ?_)
    refine jo ?_
    iterate 2 refine jN ?_
    iterate 2 refine jo ?_
    iterate 3 refine jN ?_
    refine jo ?_
    refine je ?_
    refine WS.pcondT rfl rfl ?_
    refine jq ?_
    refine jg ?_
    refine jo ?_
    refine je ?_
    refine WS.pret rfl ⟨.inr rfl, _, rfl, ?_⟩
    rotate_left
    iterate 2 refine jo ?_
    refine WS.poDS (tb := tb) rfl rfl rfl rfl rfl (fun hb__ => ?_) (fun hb__ => ?_)
    iterate 2 refine jo ?_
    iterate 3 refine jN ?_
    refine jo ?_
    refine je ?_
    refine WS.pcondT rfl rfl ?_
    refine jq ?_
    refine jg ?_
    refine jo ?_
    refine je ?_
    refine WS.pret rfl ⟨.inr rfl, _, rfl, ?_⟩
    rotate_left
    iterate 4 refine jo ?_
    refine jDT ?_
    refine jo ?_
    refine je ?_
    refine WS.pcondT rfl rfl ?_
    refine jq ?_
    refine jg ?_
    refine jo ?_
    refine je ?_
    refine WS.pret rfl ⟨.inr rfl, _, rfl, ?_⟩
    rotate_left
  all_goals exact ⟨_, rfl, rfl⟩
theorem plays_calls (z : Int) (a : Option Addr) (c : Nat) (l : List Act) (ask : Int) (W : World) (_ : (Lit.int .i64 z).wf = true) (hr : RowIn W a (cellsR rwAct l)) (hc : l.length ≤ c) (hm' : l.length ≤ maxLen) {p : Act → Prop} (_ : ∀ y ∈ l, p y) (_ : (Lit.int .i64 ask).wf = true) :
    Calls Try.prog 4 #[.int .i64 z, .slice a l.length c, .int .i64 ask] W (fun e w' => e = .returned (.bool true) ∧ Go.RowKit.Below W.heap.size W w') := by
  have hm : l.length ≤ 9223372036854775807 := Nat.le_trans hm' (by decide)
  have key : FM Try.prog 4 [.i .i64 z, .sl (argA a 0) l.length c false, .i .i64 ask] [some ⟨cellsR rwAct l, 42, false⟩] (fun v _ => v = .b true) := by
    by_cases h : z < 1 ∨ 60 < z ∨ 120 < l.length
    · exact plays_far z l _ c ask h hm
    · obtain ⟨n, rfl⟩ : ∃ n : Nat, z = n := ⟨z.toNat, by omega⟩
      rcases argA_or a 0 with ha | ha
      · have h0 : ¬ 0 < l.length := fun h3 => by rw [argA_some hr (by rw [Act_len]; omega) 0] at ha; cases ha
        obtain rfl : l = [] := List.length_eq_zero_iff.1 (by omega)
        rw [ha]
        exact plays_empty n c ask (by omega) (by omega)
      · rw [ha]
        exact plays_main n l c ask (by omega) (by omega) (by omega)
  have := FM.topR [(a, cellsR rwAct l, 42)] key ⟨trivial, by cases a <;> simp [argA, okV], trivial, trivial⟩ W (fun x hx => by
    rcases List.mem_singleton.1 hx with rfl
    exact ⟨hr, okL_cellsR 0 rwAct l⟩)
  simp only [conL, con_argA [(a, cellsR rwAct l, 42)] 0 (a, cellsR rwAct l, 42) rfl] at this
  exact this
end Go.Proofs.Ytpogfelbimcglaa.Am

