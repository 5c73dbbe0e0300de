/- What TreeOrders keeps from round to round. Conditions: those of each theorem. -/
import Derived.Test.YtpogfelbimcglaaTs1
namespace Go.Proofs.Ytpogfelbimcglaa.Am
open Go.Proofs
set_option maxRecDepth 1000000
set_option maxHeartbeats 4000000
set_option linter.unusedSimpArgs false
set_option linter.unusedVariables false
theorem Rn_eq (a a2 : Int) (b b2 : Int) (c c2 : Int) : eqB tb 100 31 (.agg [.i .i64 a, .i .i64 b, .i .i64 c]) (.agg [.i .i64 a2, .i .i64 b2, .i .i64 c2]) = decide (a = a2 ∧ b = b2 ∧ c = c2) := by
  have h : eqB tb 100 31 (.agg [.i .i64 a, .i .i64 b, .i .i64 c]) (.agg [.i .i64 a2, .i .i64 b2, .i .i64 c2]) = ((a == a2) && ((b == b2) && ((c == c2) && true))) := by kernel_rfl
  rw [h]; simp [Bool.beq_eq_decide_eq]
def MO (l o : List Int) (s u : TS) : List (Option Blk) := [some ⟨cellsR (rwI .i64) l, 3, false⟩, some ⟨cellsR (rwI .i64) o, 3, false⟩,
  some ⟨cellsR rwPl s.ps, 64, true⟩, some ⟨[.sl (some (2,0)) s.ps.length s.ps.length false, .i .u32 s.fr, .i .i64 s.n], 60, true⟩,
  some ⟨cellsR rwPl u.ps, 64, true⟩, some ⟨[.sl (some (4,0)) u.ps.length u.ps.length false, .i .u32 u.fr, .i .i64 u.n], 60, true⟩,
  some ⟨[.p (some (3,0)), .i .u32 s.T.id, .i .i64 s.n], 66, true⟩, some ⟨[.p (some (5,0)), .i .u32 u.T.id, .i .i64 u.n], 66, true⟩]
structure Inv1 (l : List Int) (i : Nat) (s u : TS) : Prop where
  le : i ≤ l.length
  so : TOk 512 s
  uo : TOk 512 u
  sn : s.n ≤ i
  un : u.n ≤ i
  sp : Plain s
  up : Plain u
  sh : ∀ k, Has s k ↔ k ∈ l.take i
  uh : ∀ k, Has u k ↔ k ∈ l.drop (l.length - i)
theorem insK_n {n : Nat} {s : TS} {a b c : Int} (h : TOk n s) : (insK n s a b c).n ≤ s.n + 1 := by
  unfold insK
  split
  · omega
  · next hg =>
    split
    · next hn => rw [(insS_ok h hn (by simpa using hg)).2]; exact Nat.le_refl _
    · omega
theorem mem_take_succ {l : List Int} {i : Nat} {x : Int} (hx : l[i]? = some x) (k : Int) : k ∈ l.take (i + 1) ↔ k = x ∨ k ∈ l.take i := by
  rw [List.take_add_one, hx]; simp [or_comm]
theorem mem_drop_succ {l : List Int} {i : Nat} {y : Int} (hi : i < l.length) (hy : l[l.length - 1 - i]? = some y) (k : Int) : k ∈ l.drop (l.length - (i + 1)) ↔ k = y ∨ k ∈ l.drop (l.length - i) := by
  have e : l.drop (l.length - (i + 1)) = y :: l.drop (l.length - i) := by
    have h1 : l.length - (i + 1) < l.length := by omega
    have h2 := List.getElem?_eq_getElem h1
    have h3 : l[l.length - (i + 1)]? = some y := by rw [← hy]; congr 1; omega
    rw [h3] at h2
    rw [List.drop_eq_getElem_cons h1, ← Option.some.inj h2, show l.length - (i + 1) + 1 = l.length - i by omega]
  rw [e]; simp
theorem Inv1.step {l : List Int} {i : Nat} {s u : TS} {x y : Int} (H : Inv1 l i s u) (hi : i < l.length) (hl : l.length ≤ 100) (hx : l[i]? = some x) (hy : l[l.length - 1 - i]? = some y) : Inv1 l (i + 1) (insK 512 s x 1 7) (insK 512 u y 1 7) := by
  refine ⟨hi, insK_ok H.so, insK_ok H.uo, Nat.le_trans (insK_n H.so) (by have := H.sn; omega), Nat.le_trans (insK_n H.uo) (by have := H.un; omega), plain_ins H.so H.sp, plain_ins H.uo H.up, fun k => ?_, fun k => ?_⟩
  · rw [has_ins H.so (by have := H.sn; omega), H.sh, mem_take_succ hx]
  · rw [has_ins H.uo (by have := H.un; omega), H.uh, mem_drop_succ hi hy]
structure Inv2 (l o : List Int) (i : Nat) (s u : TS) : Prop where
  le : i ≤ o.length
  so : TOk 512 s
  uo : TOk 512 u
  sp : Plain s
  up : Plain u
  sh : ∀ k, Has s k ↔ k ∈ l ∧ k ∉ o.take i
  uh : ∀ k, Has u k ↔ k ∈ l ∧ k ∉ o.drop (o.length - i)
theorem Inv2.step {l o : List Int} {i : Nat} {s u : TS} {x y : Int} (H : Inv2 l o i s u) (hi : i < o.length) (hx : o[i]? = some x) (hy : o[o.length - 1 - i]? = some y) : Inv2 l o (i + 1) (delK s x) (delK u y) := by
  refine ⟨hi, delK_ok H.so, delK_ok H.uo, plain_del H.so H.sp, plain_del H.uo H.up, fun k => ?_, fun k => ?_⟩
  · rw [has_del H.so, H.sh, mem_take_succ hx]
    constructor
    · rintro ⟨h1, h2, h3⟩; exact ⟨h2, fun h => by rcases h with h | h; exact h1 h; exact h3 h⟩
    · rintro ⟨h2, h3⟩; exact ⟨fun h => h3 (.inl h), h2, fun h => h3 (.inr h)⟩
  · rw [has_del H.uo, H.uh, mem_drop_succ hi hy]
    constructor
    · rintro ⟨h1, h2, h3⟩; exact ⟨h2, fun h => by rcases h with h | h; exact h1 h; exact h3 h⟩
    · rintro ⟨h2, h3⟩; exact ⟨fun h => h3 (.inl h), h2, fun h => h3 (.inr h)⟩
theorem Inv2.same {l o : List Int} {s u : TS} (H : Inv2 l o o.length s u) : runsT u.T = runsT s.T := by
  have e := srt_same H.uo.srt H.so.srt (fun k => by
    have h1 := H.sh k
    have h2 := H.uh k
    simp only [List.take_length, Nat.sub_self, List.drop_zero] at h1 h2
    exact h2.trans h1.symm)
  rw [runsT, runsT, plain_runs H.up, plain_runs H.sp, e]
theorem runs_srt {s : TS} (h : Srt s.T.ino) {i : Nat} {x y : Rn} (hi : 0 < i) (hx : (runsT s.T)[i]? = some x) (hy : (runsT s.T)[i - 1]? = some y) : y.a < x.a := by
  simp only [runsT, List.getElem?_map] at hx hy
  obtain ⟨p, hp, rfl⟩ := Option.map_eq_some_iff.1 hx
  obtain ⟨q, hq, rfl⟩ := Option.map_eq_some_iff.1 hy
  have h1 := (List.getElem?_eq_some_iff.1 hp)
  have h2 := (List.getElem?_eq_some_iff.1 hq)
  obtain ⟨l1, e1⟩ := h1
  obtain ⟨l2, e2⟩ := h2
  have := List.pairwise_iff_getElem.1 h (i - 1) i l2 l1 (by omega)
  rw [e1, e2] at this; exact this
end Go.Proofs.Ytpogfelbimcglaa.Am

