/- NandLoads answers true for any sizes, calls and byte, in every world. Conditions: the calls lie in memory. -/
import Derived.Test.YtmkolibmadbenaaAm5
import Derived.Test.YtmkolibmadbenaaNl11
import Derived.Test.YtmkolibmadbenaaNd1b
namespace Go.Proofs.Ytmkolibmadbenaa.Am
open Go.Proofs
set_option maxRecDepth 1000000
set_option maxHeartbeats 4000000
set_option linter.unusedSimpArgs false
set_option linter.unusedVariables false
theorem pl_all (b p np : Nat) (l : List Act) (u : Act) (c : Nat) (at_ by_ : Int) (hl : l.length ≤ 30) (hg : ∀ y ∈ l, goodA y) (s : StP) (H : InvL b p np l.length s) :
    WS Try.prog (frameN Try.f7 6) 1 [.c (k1 (k1 (k2 (k1 (k2 (k2 (k2 (k2 (k2 (kb Try.f7))))))))))] (slt (SSl b p l c at_ by_ s.1)) (mem 0 (LM l u s.2)) (fun x t' h' => (x = .n ∧ ∃ s', InvL b p np l.length s' ∧ l.length - s'.1 < l.length - s.1 ∧ Seen 1 t' h' (SSl b p l c at_ by_ s'.1) (LM l u s'.2)) ∨ (x = .x 0 ∧ ∃ y, InvL b p np l.length (l.length, y) ∧ Seen 1 t' h' [(0, .i .i64 b), (1, .i .i64 p), (3, .i .i64 at_), (4, .i .u8 by_), (11, .p (some (1,0))), (13, .p (some (4,0)))] (LM l u y))) := by
  obtain ⟨i, x⟩ := s
  by_cases h : i < l.length
  · refine WE.mono (fun x t' h' hq => Or.inl hq) ?_
    obtain ⟨y, hx⟩ : ∃ y, l[i]? = some y := ⟨_, List.getElem?_eq_getElem h⟩
    have hgy := hg y (List.mem_of_getElem? hx)
    obtain ⟨op, a, short, fill⟩ := y
    by_cases o0 : op = 0
    · exact pl_prog b p np l u c i at_ by_ x op a short fill H hl hx hgy o0
    · by_cases o1 : op = 1
      · exact pl_erase b p np l u c i at_ by_ x op a short fill H hl hx hgy o1
      · by_cases o3 : op = 3
        · exact pl_cut b p np l u c i at_ by_ x op a short fill H hl hx hgy o3
        · by_cases o4 : op = 4
          · exact pl_fail b p np l u c i at_ by_ x op a short fill H hl hx hgy o4
          · by_cases o5 : op = 5
            · exact pl_on b p np l u c i at_ by_ x op a short fill H hl hx hgy o5
            · exact pl_none b p np l u c i at_ by_ x op a short fill H hl hx hgy ⟨o0, o1, o3, o4, o5⟩
  · have hle := H.le
    dsimp only at hle
    obtain rfl : i = l.length := by omega
    simp only [SSl, LM, ndB, boxA, List.cons_append, List.nil_append]
    iterate 2 refine jq ?_
    refine jg ?_
    iterate 3 refine jo ?_
    refine jDF ?_
    refine je ?_
    refine WS.pcondF rfl rfl ?_
    refine WS.pout rfl rfl ?_
    exact .inr ⟨rfl, x, H, (jSn [0,1,2,3,4] (by simp [jVb, jOb, jMb, mapL_cellsR, okL_cellsR, LM, ndB, boxA, List.cons_append, List.nil_append]) (by simp only [jSl, jOb, jMb, Nat.reduceAdd, Nat.reduceLT, LM, ndB, boxA, List.cons_append, List.nil_append] <;> exact jClo))⟩
theorem loads_end (b p np : Nat) (l : List Act) (u : Act) (c : Nat) (at_ by_ : Int) (x : NS) (h2 : b ≤ 8) (h4 : p ≤ 8) (hl : l.length ≤ 30) (H : InvL b p np l.length (l.length, x)) :
    WS Try.prog (frameN Try.f7 6) 1 [.c (k2 (k2 (k2 (k2 (k2 (k2 (kb Try.f7)))))))] (slt [(0, .i .i64 b), (1, .i .i64 p), (3, .i .i64 at_), (4, .i .u8 by_), (11, .p (some (1,0))), (13, .p (some (4,0)))]) (mem 0 (LM l u x)) (fun x t' h' => (x = .n ∨ x = .r) ∧ ∃ v, resV tb t' h' (Try.f7).results.toList = some v ∧ ∃ M', h' = mem 0 M' ∧ v = .b true) := by
  obtain ⟨hle, N, hio, hlen, hp, hrd, hpr, her⟩ := H
  dsimp only at N hio hlen hp hrd hpr her
  by_cases o0 : u.op = 0
  · exact tail_0 b p np l u c at_ by_ x N hio hlen hp h2 h4 (by omega) (by omega) o0
  · by_cases o1 : u.op = 1
    · exact tail_1 b p np l u c at_ by_ x N hio hlen hp h2 h4 (by omega) (by omega) o1
    · exact tail_n b p np l u c at_ by_ x N hio hlen hp h2 h4 (by omega) (by omega) ⟨o0, o1⟩
theorem inv_0 (b p np m : Nat) (h1 : 1 ≤ b) (h2 : b ≤ 8) (h3 : 1 ≤ p) (h4 : p ≤ 8) (hp : (b : Int) * p = (np : Int)) (h0 : 1 ≤ np) (hnp : np ≤ 10000) : InvL b p np m (0, ns0 b p np) :=
  ⟨Nat.zero_le _, ns0_ok b p np h1 (by omega) h3 (by omega) hp h0 hnp, ns0_IOk b p np (by exact_mod_cast hp), by simp [ns0], by simp [ns0], by simp [ns0], by simp [ns0], by simp [ns0]⟩
theorem loads_main (b p np : Nat) (l : List Act) (u : Act) (c : Nat) (at_ by_ : Int) (aa : Option (Nat × Nat)) (h1 : 1 ≤ b) (h2 : b ≤ 8) (h3 : 1 ≤ p) (h4 : p ≤ 8) (hp : (b : Int) * p = (np : Int)) (h0 : 1 ≤ np) (hnp : np ≤ 10000) (hl : l.length ≤ 30) (hg : ∀ y ∈ l, goodA y) (ha : aa = some (0, 0)) :
    FM Try.prog 7 [.i .i64 b, .i .i64 p, .sl aa l.length c false, .i .i64 at_, .i .u8 by_, .agg [.i .i64 u.op, .i .i64 u.a, .i .i64 u.short, .i .u8 u.fill]] [some ⟨cellsR rwAct l, 38, false⟩] (fun v _ => v = .b true) := by
  subst ha
  have AW := awake_fm
  have N := nnew_ok b p np h1 (by omega) h3 (by omega) hp hnp
  refine FM.pbody (tb := tb) (fn := Try.f7) rfl rfl ?_
  simp only [argS, Nat.reduceAdd, List.length_cons, List.length_nil]
  refine jq ?_
  refine jg ?_
  refine jn ?_
  refine jo ?_
  refine je ?_
  iterate 2 refine jq ?_
  refine jg ?_
  refine jc [] AW (by simp [jOb, ndM]) (by simp [jEb, jOb, jMb, mapL_cellsR, okL_cellsR, ndM]) ?_; rintro _ _ ⟨rfl, rfl⟩ -; simp only [jPg, jMb, ll, Nat.reduceAdd, Nat.reduceLT, Nat.zero_add, if_true, if_false, Nat.reduceSub, reduceIte, mapL_cellsR, Nat.lt_irrefl, Nat.not_lt_zero, Nat.zero_lt_succ, Nat.lt_add_one, ndM]
  refine jB false ?_
  refine je ?_
  refine WS.pcondF rfl rfl ?_
  refine WS.pskip rfl ?_
  iterate 2 refine jq ?_
  refine jg ?_
  refine jo ?_
  refine jDF ?_
  iterate 2 refine jo ?_
  refine jDF ?_
  iterate 3 refine jo ?_
  refine jDF ?_
  iterate 3 refine jo ?_
  refine jDF ?_
  iterate 4 refine jo ?_
  refine jDF ?_
  refine jo ?_
  refine je ?_
  refine WS.pcondF rfl rfl ?_
  refine WS.pskip rfl ?_
  refine jq ?_
  refine jg ?_
  iterate 2 refine jo ?_
  refine jc [] N (by simp [jOb, ndM]) (by simp [jEb, jOb, jMb, mapL_cellsR, okL_cellsR, ndM]) ?_; rintro _ _ ⟨rfl, rfl⟩ -; simp only [jPg, jMb, ll, Nat.reduceAdd, Nat.reduceLT, Nat.zero_add, if_true, if_false, Nat.reduceSub, reduceIte, mapL_cellsR, Nat.lt_irrefl, Nat.not_lt_zero, Nat.zero_lt_succ, Nat.lt_add_one, ndM]
  iterate 5 refine jo ?_
  refine je ?_
  iterate 2 refine jq ?_
  refine jg ?_
  refine jo ?_
  refine jB false ?_
  refine je ?_
  refine WS.pcondF rfl rfl ?_
  refine WS.pskip rfl ?_
  iterate 2 refine jq ?_
  refine jg ?_
  refine jo ?_
  refine je ?_
  refine WS.pblock rfl ?_
  refine WS.ploopI (σ := StP) (τ := NS) (fun s => SSl b p l c at_ by_ s.1) (fun a => LM l u a.2) (InvL b p np l.length) (fun s => l.length - s.1) (fun _ => [(0, .i .i64 b), (1, .i .i64 p), (3, .i .i64 at_), (4, .i .u8 by_), (11, .p (some (1,0))), (13, .p (some (4,0)))]) (fun s => LM l u s) (fun s => InvL b p np l.length (l.length, s)) 0 [0,1,2,3,4] (0, ns0 b p np) rfl (inv_0 b p np l.length h1 h2 h3 h4 hp h0 hnp) (jSb (by simp [jVb, jOb, jMb, mapL_cellsR, okL_cellsR, SSl, LM, ndB, boxA, List.cons_append, List.nil_append]) (by simp only [jSl, jOb, jMb, Nat.reduceAdd, Nat.reduceLT, SSl, LM, ndB, boxA, List.cons_append, List.nil_append] <;> exact jClo)) rfl ?_ ?_
  · intro s H
    refine WE.mono (fun x t' h' hq => ?_) (pl_all b p np l u c at_ by_ hl hg s H)
    rcases hq with ⟨rfl, s', hs, hm, hS⟩ | ⟨rfl, y, hy, hS⟩
    · exact ⟨s', hs, hm, hS⟩
    · exact ⟨rfl, y, hy, hS⟩
  · rintro x HI
    exact loads_end b p np l u c at_ by_ x h2 h4 hl HI
theorem loads_empty (b p np : Nat) (u : Act) (c : Nat) (at_ by_ : Int) (h1 : 1 ≤ b) (h2 : b ≤ 8) (h3 : 1 ≤ p) (h4 : p ≤ 8) (hp : (b : Int) * p = (np : Int)) (h0 : 1 ≤ np) (hnp : np ≤ 10000) :
    FM Try.prog 7 [.i .i64 b, .i .i64 p, .sl none 0 c false, .i .i64 at_, .i .u8 by_, .agg [.i .i64 u.op, .i .i64 u.a, .i .i64 u.short, .i .u8 u.fill]] [some ⟨cellsR rwAct [], 38, false⟩] (fun v _ => v = .b true) := by
  have AW := awake_fm
  have N := nnew_ok b p np h1 (by omega) h3 (by omega) hp hnp
  refine FM.pbody (tb := tb) (fn := Try.f7) rfl rfl ?_
  simp only [argS, Nat.reduceAdd, List.length_cons, List.length_nil]
  refine jq ?_
  refine jg ?_
  refine jn ?_
  refine jo ?_
  refine je ?_
  iterate 2 refine jq ?_
  refine jg ?_
  refine jc [] AW (by simp [jOb, ndM]) (by simp [jEb, jOb, jMb, mapL_cellsR, okL_cellsR, ndM]) ?_; rintro _ _ ⟨rfl, rfl⟩ -; simp only [jPg, jMb, ll, Nat.reduceAdd, Nat.reduceLT, Nat.zero_add, if_true, if_false, Nat.reduceSub, reduceIte, mapL_cellsR, Nat.lt_irrefl, Nat.not_lt_zero, Nat.zero_lt_succ, Nat.lt_add_one, ndM]
  refine jB false ?_
  refine je ?_
  refine WS.pcondF rfl rfl ?_
  refine WS.pskip rfl ?_
  iterate 2 refine jq ?_
  refine jg ?_
  refine jo ?_
  refine jDF ?_
  iterate 2 refine jo ?_
  refine jDF ?_
  iterate 3 refine jo ?_
  refine jDF ?_
  iterate 3 refine jo ?_
  refine jDF ?_
  iterate 4 refine jo ?_
  refine jB false ?_
  refine jo ?_
  refine je ?_
  refine WS.pcondF rfl rfl ?_
  refine WS.pskip rfl ?_
  refine jq ?_
  refine jg ?_
  iterate 2 refine jo ?_
  refine jc [] N (by simp [jOb, ndM]) (by simp [jEb, jOb, jMb, mapL_cellsR, okL_cellsR, ndM]) ?_; rintro _ _ ⟨rfl, rfl⟩ -; simp only [jPg, jMb, ll, Nat.reduceAdd, Nat.reduceLT, Nat.zero_add, if_true, if_false, Nat.reduceSub, reduceIte, mapL_cellsR, Nat.lt_irrefl, Nat.not_lt_zero, Nat.zero_lt_succ, Nat.lt_add_one, ndM]
  iterate 5 refine jo ?_
  refine je ?_
  iterate 2 refine jq ?_
  refine jg ?_
  refine jo ?_
  refine jB false ?_
  refine je ?_
  refine WS.pcondF rfl rfl ?_
  refine WS.pskip rfl ?_
  iterate 2 refine jq ?_
  refine jg ?_
  refine jo ?_
  refine je ?_
  refine WS.pblock rfl ?_
  refine WS.ploopI (σ := Unit) (τ := Unit) (fun _ => [(0, .i .i64 b), (1, .i .i64 p), (2, .sl none 0 c false), (3, .i .i64 at_), (4, .i .u8 by_), (11, .p (some (1,0))), (13, .p (some (4,0))), (15, .i .i64 0)]) (fun _ => LM [] u (ns0 b p np)) (fun _ => True) (fun _ => 0) (fun _ => [(0, .i .i64 b), (1, .i .i64 p), (3, .i .i64 at_), (4, .i .u8 by_), (11, .p (some (1,0))), (13, .p (some (4,0)))]) (fun _ => LM [] u (ns0 b p np)) (fun _ => True) 0 [0,1,2,3,4] () rfl trivial (jSb (by simp [jVb, jOb, jMb, mapL_cellsR, okL_cellsR, LM, ndB, boxA, List.cons_append, List.nil_append]) (by simp only [jSl, jOb, jMb, Nat.reduceAdd, Nat.reduceLT, LM, ndB, boxA, List.cons_append, List.nil_append] <;> exact jClo)) rfl ?_ ?_
  · rintro ⟨⟩ -
    simp only [LM, ndB, boxA, List.cons_append, List.nil_append]
    iterate 2 refine jq ?_
    refine jg ?_
    iterate 3 refine jo ?_
    refine jB false ?_
    refine je ?_
    refine WS.pcondF rfl rfl ?_
    refine WS.pout rfl rfl ?_
    exact ⟨rfl, (), trivial, (jSn [0,1,2,3,4] (by simp [jVb, jOb, jMb, mapL_cellsR, okL_cellsR, LM, ndB, boxA, List.cons_append, List.nil_append]) (by simp only [jSl, jOb, jMb, Nat.reduceAdd, Nat.reduceLT, LM, ndB, boxA, List.cons_append, List.nil_append] <;> exact jClo))⟩
  · rintro _ -
    exact loads_end b p np [] u c at_ by_ (ns0 b p np) h2 h4 (by simp) (inv_0 b p np 0 h1 h2 h3 h4 hp h0 hnp)
theorem loads_far (z1 z2 : Int) (l : List Act) (u : Act) (at_ by_ : Int) (a : Option (Nat × Nat)) (c : Nat) (h : z1 < 1 ∨ 8 < z1 ∨ z2 < 1 ∨ 8 < z2 ∨ 30 < l.length) (hl : l.length ≤ 9223372036854775807) : FM Try.prog 7 [.i .i64 z1, .i .i64 z2, .sl a l.length c false, .i .i64 at_, .i .u8 by_, .agg [.i .i64 u.op, .i .i64 u.a, .i .i64 u.short, .i .u8 u.fill]] [some ⟨cellsR rwAct l, 38, false⟩] (fun v _ => v = .b true) := by
  have AW := awake_fm
  refine FM.pbody (tb := tb) (fn := Try.f7) rfl rfl ?_
  simp only [argS, Nat.reduceAdd, List.length_cons, List.length_nil]
  focus
    refine jq ?_
    refine jg ?_
    refine jn ?_
    refine jo ?_
    refine je ?_
    iterate 2 refine jq ?_
    refine jg ?_
    refine jc [] AW (by simp [jOb]) (by simp [jEb, jOb, jMb, mapL_cellsR, okL_cellsR]) ?_; rintro _ _ ⟨rfl, rfl⟩ -; simp only [jPg, jMb, ll, Nat.reduceAdd, Nat.reduceLT, Nat.zero_add, if_true, if_false, Nat.reduceSub, reduceIte, mapL_cellsR, Nat.lt_irrefl, Nat.not_lt_zero, Nat.zero_lt_succ, Nat.lt_add_one]
    refine jB false ?_
    refine je ?_
    refine WS.pcondF rfl rfl ?_
    refine WS.pskip rfl ?_
    iterate 2 refine jq ?_
    refine jg ?_
    refine jo ?_
    refine WS.poDS (tb := tb) rfl rfl rfl rfl rfl (fun hb__ => ?_) (fun hb__ => ?_)
    refine jo ?_
    iterate 2 refine jN ?_
    iterate 2 refine jo ?_
    iterate 2 refine jN ?_
    iterate 2 refine jo ?_
    iterate 2 refine jN ?_
    iterate 2 refine jo ?_
    iterate 3 refine jN ?_
    refine jo ?_
    refine je ?_
    refine WS.pcondT rfl rfl ?_
    refine jq ?_
    refine jg ?_
    refine jo ?_
    refine je ?_
    refine WS.pret rfl ⟨.inr rfl, _, rfl, ?_⟩
    rotate_left
    iterate 2 refine jo ?_
    refine WS.poDS (tb := tb) rfl rfl rfl rfl rfl (fun hb__ => ?_) (fun hb__ => ?_)
    iterate 2 refine jo ?_
    iterate 2 refine jN ?_
    iterate 2 refine jo ?_
    iterate 2 refine jN ?_
    iterate 2 refine jo ?_
    iterate 3 refine jN ?_
    refine jo ?_
    refine je ?_
    refine WS.pcondT rfl rfl ?_
    refine jq ?_
    refine jg ?_
    refine jo ?_
    refine je ?_
    refine WS.pret rfl ⟨.inr rfl, _, rfl, ?_⟩
    rotate_left
    iterate 3 refine jo ?_
    refine WS.poDS (tb := tb) rfl rfl rfl rfl rfl (fun hb__ => ?_) (fun hb__ => ?_)
    iterate 2 refine jo ?_
    iterate 2 refine jN ?_
    iterate 2 refine jo ?_
    iterate 3 refine jN ?_
    refine jo ?_
    refine je ?_
    refine WS.pcondT rfl rfl ?_
    refine jq ?_
    refine jg ?_
    refine jo ?_
    refine je ?_
    refine WS.pret rfl ⟨.inr rfl, _, rfl, ?_⟩
    rotate_left
    iterate 3 refine jo ?_
    refine WS.poDS (tb := tb) rfl rfl rfl rfl rfl (fun hb__ => ?_) (fun hb__ => ?_)
    iterate 2 refine jo ?_
    iterate 3 refine jN ?_
    refine jo ?_
    refine je ?_
    refine WS.pcondT rfl rfl ?_
    refine jq ?_
    refine jg ?_
    refine jo ?_
    refine je ?_
    refine WS.pret rfl ⟨.inr rfl, _, rfl, ?_⟩
    rotate_left
    iterate 4 refine jo ?_
    refine jDT ?_
    refine jo ?_
    refine je ?_
    refine WS.pcondT rfl rfl ?_
    refine jq ?_
    refine jg ?_
    refine jo ?_
    refine je ?_
    refine WS.pret rfl ⟨.inr rfl, _, rfl, ?_⟩
    rotate_left
  all_goals exact ⟨_, rfl, rfl⟩
theorem loads_calls (z1 z2 : Int) (a : Option Addr) (c : Nat) (l : List Act) (at_ by_ : Int) (u : Act) (W : World) (_ : (Lit.int .i64 z1).wf = true) (_ : (Lit.int .i64 z2).wf = true) (hr : RowIn W a (cellsR rwAct l)) (hc : l.length ≤ c) (hm' : l.length ≤ maxLen) (hg : ∀ y ∈ l, (Lit.int .i64 y.op).wf = true ∧ (Lit.int .i64 y.a).wf = true ∧ (Lit.int .i64 y.short).wf = true ∧ (Lit.int .u8 y.fill).wf = true) (_ : (Lit.int .i64 at_).wf = true) (_ : (Lit.int .u8 by_).wf = true) (_ : (Lit.int .i64 u.op).wf = true ∧ (Lit.int .i64 u.a).wf = true ∧ (Lit.int .i64 u.short).wf = true ∧ (Lit.int .u8 u.fill).wf = true) :
    Calls Try.prog 7 #[.int .i64 z1, .int .i64 z2, .slice a l.length c, .int .i64 at_, .int .u8 by_, .agg #[.int .i64 u.op, .int .i64 u.a, .int .i64 u.short, .int .u8 u.fill]] W (fun e w' => e = .returned (.bool true) ∧ Go.RowKit.Below W.heap.size W w') := by
  have hm : l.length ≤ 9223372036854775807 := Nat.le_trans hm' (by decide)
  have key : FM Try.prog 7 [.i .i64 z1, .i .i64 z2, .sl (argA a 0) l.length c false, .i .i64 at_, .i .u8 by_, .agg [.i .i64 u.op, .i .i64 u.a, .i .i64 u.short, .i .u8 u.fill]] [some ⟨cellsR rwAct l, 38, false⟩] (fun v _ => v = .b true) := by
    by_cases h : z1 < 1 ∨ 8 < z1 ∨ z2 < 1 ∨ 8 < z2 ∨ 30 < l.length
    · exact loads_far z1 z2 l u at_ by_ _ c h hm
    · obtain ⟨b, rfl⟩ : ∃ n : Nat, z1 = n := ⟨z1.toNat, by omega⟩
      obtain ⟨p, rfl⟩ : ∃ n : Nat, z2 = n := ⟨z2.toNat, by omega⟩
      have hle : b * p ≤ 64 * 32 := Nat.mul_le_mul (by omega) (by omega)
      have hge : 1 * 1 ≤ b * p := Nat.mul_le_mul (by omega) (by omega)
      have hp : (b : Int) * p = ((b * p : Nat) : Int) := by push_cast; rfl
      rcases argA_or a 0 with ha | ha
      · have h0 : ¬ 0 < l.length := fun h3 => by rw [argA_some hr (by rw [Act_len]; omega) 0] at ha; cases ha
        obtain rfl : l = [] := List.length_eq_zero_iff.1 (by omega)
        rw [ha]
        exact loads_empty b p (b * p) u c at_ by_ (by omega) (by omega) (by omega) (by omega) hp (by omega) (by omega)
      · exact loads_main b p (b * p) l u c at_ by_ (argA a 0) (by omega) (by omega) (by omega) (by omega) hp (by omega) (by omega) (by omega) hg ha
  have := FM.topR [(a, cellsR rwAct l, 38)] key ⟨trivial, trivial, by cases a <;> simp [argA, okV], trivial, trivial, ⟨trivial, trivial, trivial, trivial, trivial⟩, trivial⟩ W (fun x hx => by
    rcases List.mem_singleton.1 hx with rfl
    exact ⟨hr, okL_cellsR 0 rwAct l⟩)
  simp only [conL, con_argA [(a, cellsR rwAct l, 38)] 0 (a, cellsR rwAct l, 38) rfl] at this
  exact this
end Go.Proofs.Ytmkolibmadbenaa.Am

