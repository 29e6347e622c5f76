/- core.New, of a configuration that may be. -/
import Derived.Test.YtlbjjooiiikmjaaF2
import Derived.Test.YtlbjjooiiikmjaaC
namespace Go.Proofs.Ytlbjjooiiikmjaa
open Go.RowKit
set_option maxRecDepth 100000
set_option linter.unusedVariables false

theorem upd_lt {m : Nat → Nat} {M : Nat} (h : ∀ i, m i < M) (k v : Nat) (hv : v < M) (i : Nat) : upd m k v i < M := by
  unfold upd; split
  · exact hv
  · exact h i
theorem chainM_lt {m : Nat → Nat} {M : Nat} (g : Nat → Nat) (h : ∀ i, m i < M) : ∀ (k : Nat), k + 1 < M → ∀ i, chainM g m k i < M
  | 0, _, i => h i
  | k + 1, hk, i => upd_lt (chainM_lt g h k (by omega)) _ _ (by omega) i
theorem stateWord_lt (g t s : Int) : stateWord g t s < 18446744073709551616 := packed_lt [32, 30, 2] [g, t, s] (by decide) rfl
theorem stateM_lt {m : Nat → Nat} (c : Cf) (h : ∀ i, m i < 18446744073709551616) : ∀ (k : Nat) (i : Nat), stateM c m k i < 18446744073709551616
  | 0, i => h i
  | k + 1, i => upd_lt (stateM_lt c h k) _ _ (stateWord_lt _ _ _) i
theorem freshM_lt {c : Cf} (hok : c.Ok) (i : Nat) : freshM c i < 18446744073709551616 := by
  have := hok.n2; have := hok.n1; have := hok.t1; have := hok.t2
  refine stateM_lt c ?_ _ i
  refine chainM_lt _ ?_ _ (by omega)
  exact fun i => upd_lt (chainM_lt _ (fun i => upd_lt (fun _ => by omega) _ _ (by omega) i) _ (by omega)) _ _ (by omega) i

/-- What there is at first. -/
def S0 (c : Cf) : St := { n := c.size, m := freshM c, cnt := 0, log := [], reg := [] }

/-- There is a new core, and all that was there is as it was. -/
structure Born (c : Cf) (w : World) (E : G) (L : Lab) (w' : World) : Prop where
  cf : E.cf = c
  good : Good E L (S0 c) w'
  bl : Below w.heap.size w w'
  old : ∀ b, b < w.heap.size → L b = 0
  nr : ∀ b, L b < 4
  ek : w.heap.size ≤ E.k

theorem born {c : Cf} (hok : c.Ok) {w w1 w2 : World} {p a r : Nat} (hB : Below w.heap.size w w1) (hpw : w.heap.size ≤ p) (hpl : PlanAt w1 p c) (lp : p < w1.heap.size) (hr1 : w1.heap.size ≤ r) (hr2 : r < a)
    (hb2 : Below w1.heap.size w1 w2) (ha0 : w2.cell? ⟨a, 0, none⟩ = some (.slice (some ⟨r, 0, none⟩) c.size c.size)) (ha1 : w2.cell? ⟨a, 1, none⟩ = some (.int .i64 0)) (haf : w2.frozen? ⟨a, 1, none⟩ = false)
    (hc0 : ∀ i, i < c.size → w2.cell? ⟨r, i, none⟩ = some (.int .u64 (freshM c i : Nat))) (hcf : ∀ i, i < c.size → w2.frozen? ⟨r, i, none⟩ = false) :
    Born c w ⟨w2.heap.size, p, a, r, c⟩ (fun b => if b = w2.heap.size then 1 else if b = a then 2 else if b = r then 3 else 0) (w2.alloc (.cells #[.pointer (some ⟨p, 0, none⟩), .pointer (some ⟨a, 0, none⟩), .slice none 0 0] 77)) := by
  have la := cell_lt ha0
  have hs1 := hB.size
  have hs2 := hb2.size
  have hal : Below w2.heap.size w2 (w2.alloc (.cells #[.pointer (some ⟨p, 0, none⟩), .pointer (some ⟨a, 0, none⟩), .slice none 0 0] 77)) := (Below.refl _ _).alloc (Nat.le_refl _) _
  have hsz := hok.size_le
  dsimp only at la
  refine ⟨rfl, ⟨hok, by simp, by simp, ?_, ?_, ?_, ?_, by simp, ?_, ?_, ?_, ?_⟩, (hB.trans (hb2.mono hs1)).trans (hal.mono (by omega)), ?_, ?_, by show w.heap.size ≤ w2.heap.size; omega⟩
  · exact (hpl.mono (hb2.block p lp)).mono (hal.block p (by omega))
  · refine ⟨below_cell hal ha0, below_cell hal ha1, (hal.frozen la).trans haf, fun i hi => below_cell hal (hc0 i hi), fun i hi => (hal.frozen (cell_lt (hc0 i hi))).trans (hcf i hi), by show a ≠ r; omega, by show c.size ≤ _; omega, freshM_lt hok, by show (0 : Nat) ≤ _; omega⟩
  · refine ⟨by simp, .slice none 0 0, by simp, World.ownsRow_nil _ _ _ _, by intro g hg; cases hg⟩
  · intro b v hb; cases hb
  · show (if p = w2.heap.size then 1 else if p = a then 2 else if p = r then 3 else 0) = 0
    rw [if_neg (by omega), if_neg (by omega), if_neg (by omega)]
  · show (if a = w2.heap.size then 1 else if a = a then 2 else if a = r then 3 else 0) = 2
    rw [if_neg (by omega), if_pos rfl]
  · show (if r = w2.heap.size then 1 else if r = a then 2 else if r = r then 3 else 0) = 3
    rw [if_neg (by omega), if_neg (by omega), if_pos rfl]
  · intro b hb
    simp at hb
    show (if b = w2.heap.size then 1 else if b = a then 2 else if b = r then 3 else 0) = 0
    rw [if_neg (by omega), if_neg (by omega), if_neg (by omega)]
  · intro b hb
    show (if b = w2.heap.size then 1 else if b = a then 2 else if b = r then 3 else 0) = 0
    rw [if_neg (by omega), if_neg (by omega), if_neg (by omega)]
  · intro b
    show (if b = w2.heap.size then 1 else if b = a then 2 else if b = r then 3 else 0) < 4
    split
    · omega
    · split
      · omega
      · split <;> omega

set_option maxHeartbeats 4000000 in
theorem core_new (c : Cf) (hok : c.Ok) (w : World) :
    Calls Try.prog 17 #[.agg c.vals] w fun e w' => ∃ E L, e = .returned (.tuple #[.pointer (some ⟨E.k, 0, none⟩), .int .i64 0]) ∧ Born c w E L w' := by
  have HN := Go.Lib.hid (plan_new c hok)
  have HF := Go.Lib.hid (plan_fresh c hok)
  unfold Cf.vals at HN ⊢
  go_enter Try.func17, Try.ntmps17
  go_wp2_with fail
  refine (HN.out _).mono ?_
  rintro e w1 ⟨p, rfl, hpl, hb1, hp1⟩
  have HPL := Go.Lib.hid hpl
  have lp := cell_lt hpl.c0
  have hB : Below w.heap.size w w1 := by
    have h0 : Below w.heap.size w (w.alloc (.cells #[.int .i64 c.workers, .int .i64 c.levels, .int .i64 c.bits, .int .i64 c.nodes, .int .i64 c.tickets, .int .i64 c.slack, .int .i64 c.first, .int .i64 c.conns, .int .i64 c.timeout, .int .i64 c.base, .int .i64 c.cap, .int .i64 c.jitter, .int .i64 c.attempts] 48)) := (Below.refl _ _).alloc (Nat.le_refl _) _
    exact h0.trans (hb1.mono (by simp))
  have hpw : w.heap.size ≤ p := by simp at hp1; omega
  clear hpl hb1 hp1
  go_wp2_with fail
  refine (HF.out p w1 HPL.out).mono ?_
  rintro e w2 ⟨a, r, rfl, hr1, hr2, hb2, ha0, ha1, haf, hc0, hcf⟩
  have HA0 := Go.Lib.hid ha0
  have HA1 := Go.Lib.hid ha1
  have HAF := Go.Lib.hid haf
  have HC0 := Go.Lib.hid hc0
  have HCF := Go.Lib.hid hcf
  clear ha0 ha1 haf hc0 hcf
  go_wp2
  go_ret2
  exact ⟨⟨w2.heap.size, p, a, r, c⟩, _, rfl, born hok hB hpw HPL.out lp hr1 hr2 hb2 HA0.out HA1.out HAF.out HC0.out HCF.out⟩
end Go.Proofs.Ytlbjjooiiikmjaa

