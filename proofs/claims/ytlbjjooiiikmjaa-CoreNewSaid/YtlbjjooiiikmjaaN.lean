/- Making a core: the plan, the arena, the fresh cells. -/
import Derived.Test.YtlbjjooiiikmjaaC
namespace Go.Proofs.Ytlbjjooiiikmjaa
open Go.RowKit
set_option maxRecDepth 100000
set_option linter.unusedVariables false

set_option maxHeartbeats 1000000 in
theorem plan_list (c : Cf) (w : World) :
    Calls Try.prog 93 #[.agg c.vals] w fun e w' => e = .returned (.agg c.vals) ∧ Below w.heap.size w w' := by
  unfold Cf.vals
  go_enter Try.func93, Try.ntmps93
  go_wp2
  refine bodyPost_ret (v := .agg c.vals) (by simp [results, Try.results93, go_sem, Cf.vals]) rfl ⟨by unfold Cf.vals; rfl, ?_⟩
  exact ((Below.refl _ _).alloc (Nat.le_refl _) _).alloc (by simp) _

/-- A configuration's numbers, by their places. -/
def Cf.nth (c : Cf) (k : Nat) : Nat := [c.workers, c.levels, c.bits, c.nodes, c.tickets, c.slack, c.first, c.conns, c.timeout, c.base, c.cap, c.jitter, c.attempts].getD k 0
def loOf (k : Nat) : Nat := [1, 1, 1, 1, 1, 0, 0, 0, 1, 1, 1, 0, 0].getD k 0
def hiOf (k : Nat) : Nat := [64, 8, 6, 4096, 8192, 1073741823, 4294967295, 256, 1073741823, 1073741823, 1073741823, 1073741823, 31].getD k 0
theorem Cf.Ok.nth {c : Cf} (h : c.Ok) : ∀ k, k < 13 → loOf k ≤ c.nth k ∧ c.nth k ≤ hiOf k
  | 0, _ => ⟨by show 1 ≤ c.workers; have := h.w1; omega, by show c.workers ≤ 64; have := h.w2; omega⟩
  | 1, _ => ⟨by show 1 ≤ c.levels; have := h.l1; omega, by show c.levels ≤ 8; have := h.l2; omega⟩
  | 2, _ => ⟨by show 1 ≤ c.bits; have := h.b1; omega, by show c.bits ≤ 6; have := h.b2; omega⟩
  | 3, _ => ⟨by show 1 ≤ c.nodes; have := h.n1; omega, by show c.nodes ≤ 4096; have := h.n2; omega⟩
  | 4, _ => ⟨by show 1 ≤ c.tickets; have := h.t1; omega, by show c.tickets ≤ 8192; have := h.t2; omega⟩
  | 5, _ => ⟨by show 0 ≤ c.slack; have := h.s2; omega, by show c.slack ≤ 1073741823; have := h.s2; omega⟩
  | 6, _ => ⟨by show 0 ≤ c.first; have := h.f2; omega, by show c.first ≤ 4294967295; have := h.f2; omega⟩
  | 7, _ => ⟨by show 0 ≤ c.conns; have := h.c2; omega, by show c.conns ≤ 256; have := h.c2; omega⟩
  | 8, _ => ⟨by show 1 ≤ c.timeout; have := h.o1; omega, by show c.timeout ≤ 1073741823; have := h.o2; omega⟩
  | 9, _ => ⟨by show 1 ≤ c.base; have := h.a1; omega, by show c.base ≤ 1073741823; have := h.a2; omega⟩
  | 10, _ => ⟨by show 1 ≤ c.cap; have := h.p1; omega, by show c.cap ≤ 1073741823; have := h.p2; omega⟩
  | 11, _ => ⟨by show 0 ≤ c.jitter; have := h.j2; omega, by show c.jitter ≤ 1073741823; have := h.j2; omega⟩
  | 12, _ => ⟨by show 0 ≤ c.attempts; have := h.r2; omega, by show c.attempts ≤ 31; have := h.r2; omega⟩
  | k + 13, h => absurd h (by omega)
theorem index_cf (c : Cf) (w : World) : ∀ k, k < 13 → (Instr.index 22 (.agg #[.int .i64 c.workers, .int .i64 c.levels, .int .i64 c.bits, .int .i64 c.nodes, .int .i64 c.tickets, .int .i64 c.slack, .int .i64 c.first, .int .i64 c.conns, .int .i64 c.timeout, .int .i64 c.base, .int .i64 c.cap, .int .i64 c.jitter, .int .i64 c.attempts]) (.int .i64 (k : Nat))).run Try.prog w = .ok (.int .i64 (c.nth k : Nat)) w
  | 0, _ => by kernel_rfl
  | 1, _ => by kernel_rfl
  | 2, _ => by kernel_rfl
  | 3, _ => by kernel_rfl
  | 4, _ => by kernel_rfl
  | 5, _ => by kernel_rfl
  | 6, _ => by kernel_rfl
  | 7, _ => by kernel_rfl
  | 8, _ => by kernel_rfl
  | 9, _ => by kernel_rfl
  | 10, _ => by kernel_rfl
  | 11, _ => by kernel_rfl
  | 12, _ => by kernel_rfl
  | k + 13, h => absurd h (by omega)


theorem wpList_value {P : Program} {ops : Array Oper} {Q : Exit → Act → World → Prop} {o : Oper} {rest : List Oper} {a : Act} {w : World} (hg : o.guard = none) (v : Value)
    (hrun : (execOp a.eval o).run P w = .ok (.value v) w) (h : wpList P ops Q rest (a.put o.dst v) w) : wpList P ops Q (o :: rest) a w :=
  wpList_plain hg fun K hK => by
    unfold Oper.wp
    rw [hrun]
    exact hK _ _ h

def spanVals : List Value := [.int .i64 1, .int .i64 64, .int .i64 1, .int .i64 8, .int .i64 1, .int .i64 6, .int .i64 1, .int .i64 4096, .int .i64 1, .int .i64 8192, .int .i64 0, .int .i64 1073741823, .int .i64 0, .int .i64 4294967295, .int .i64 0, .int .i64 256, .int .i64 1, .int .i64 1073741823, .int .i64 1, .int .i64 1073741823, .int .i64 1, .int .i64 1073741823, .int .i64 0, .int .i64 1073741823, .int .i64 0, .int .i64 31]
theorem spanVals_lo : ∀ k, k < 13 → spanVals[k * 2]? = some (.int .i64 (loOf k : Nat))
  | 0, _ => rfl
  | 1, _ => rfl
  | 2, _ => rfl
  | 3, _ => rfl
  | 4, _ => rfl
  | 5, _ => rfl
  | 6, _ => rfl
  | 7, _ => rfl
  | 8, _ => rfl
  | 9, _ => rfl
  | 10, _ => rfl
  | 11, _ => rfl
  | 12, _ => rfl
  | k + 13, h => absurd h (by omega)
theorem spanVals_hi : ∀ k, k < 13 → spanVals[k * 2 + 1]? = some (.int .i64 (hiOf k : Nat))
  | 0, _ => rfl
  | 1, _ => rfl
  | 2, _ => rfl
  | 3, _ => rfl
  | 4, _ => rfl
  | 5, _ => rfl
  | 6, _ => rfl
  | 7, _ => rfl
  | 8, _ => rfl
  | 9, _ => rfl
  | 10, _ => rfl
  | 11, _ => rfl
  | 12, _ => rfl
  | k + 13, h => absurd h (by omega)
theorem there_alloc_new (w : World) (c : Array Value) (t : TypeId) (n : Nat) (hn : n = c.size) : (w.alloc (.cells c t)).there w.heap.size 0 n := by
  intro j hj
  have hb := heap_alloc_new w (.cells c t)
  refine ⟨?_, ?_⟩
  · rw [cell_of_row _ _ _ _ _ _ hb]; simp; omega
  · exact frozen_of_row _ _ _ _ _ hb
theorem size_setCells (b : Nat) : ∀ (vs : List Value) (o : Nat) (w : World), (w.setCells b o vs).heap.size = w.heap.size
  | [], _, _ => rfl
  | v :: r, o, w => by show ((w.setCell ⟨b, o, none⟩ v).setCells b (o + 1) r).heap.size = _; rw [size_setCells b r (o + 1)]; simp [World.setCell]
theorem below_setCells {B : Nat} {a : World} (b : Nat) (hb : B ≤ b) : ∀ (vs : List Value) (o : Nat) (w : World), Below B a w → Below B a (w.setCells b o vs)
  | [], _, _, h => h
  | v :: r, o, w, h => below_setCells b hb r (o + 1) (w.setCell ⟨b, o, none⟩ v) (h.setCell hb v)

set_option maxHeartbeats 1000000 in
theorem plan_check (c : Cf) (hok : c.Ok) (w : World) :
    Calls Try.prog 70 #[.agg c.vals] w fun e w' => e = .returned (.tuple #[.int .i64 0, .int .i64 0]) ∧ Below w.heap.size w w' := by
  have HO := Go.Lib.hid hok.nth
  have HL := Go.Lib.hid (plan_list c)
  have HI := Go.Lib.hid (index_cf c)
  clear hok
  unfold Cf.vals at HL ⊢
  go_enter Try.func70, Try.ntmps70
  have hth : ((w.alloc (.cells #[.int .i64 c.workers, .int .i64 c.levels, .int .i64 c.bits, .int .i64 c.nodes, .int .i64 c.tickets, .int .i64 c.slack, .int .i64 c.first, .int .i64 c.conns, .int .i64 c.timeout, .int .i64 c.base, .int .i64 c.cap, .int .i64 c.jitter, .int .i64 c.attempts] 48)).alloc (.cells #[.int .i64 0, .int .i64 0, .int .i64 0, .int .i64 0, .int .i64 0, .int .i64 0, .int .i64 0, .int .i64 0, .int .i64 0, .int .i64 0, .int .i64 0, .int .i64 0, .int .i64 0, .int .i64 0, .int .i64 0, .int .i64 0, .int .i64 0, .int .i64 0, .int .i64 0, .int .i64 0, .int .i64 0, .int .i64 0, .int .i64 0, .int .i64 0, .int .i64 0, .int .i64 0] 143)).there (w.heap.size + 1) 0 26 := by
    have h := there_alloc_new (w.alloc (.cells #[.int .i64 c.workers, .int .i64 c.levels, .int .i64 c.bits, .int .i64 c.nodes, .int .i64 c.tickets, .int .i64 c.slack, .int .i64 c.first, .int .i64 c.conns, .int .i64 c.timeout, .int .i64 c.base, .int .i64 c.cap, .int .i64 c.jitter, .int .i64 c.attempts] 48)) #[.int .i64 0, .int .i64 0, .int .i64 0, .int .i64 0, .int .i64 0, .int .i64 0, .int .i64 0, .int .i64 0, .int .i64 0, .int .i64 0, .int .i64 0, .int .i64 0, .int .i64 0, .int .i64 0, .int .i64 0, .int .i64 0, .int .i64 0, .int .i64 0, .int .i64 0, .int .i64 0, .int .i64 0, .int .i64 0, .int .i64 0, .int .i64 0, .int .i64 0, .int .i64 0] 143 26 rfl
    simpa using h
  have HTH := Go.Lib.hid hth
  clear hth
  go_wp2_with (first
    | (refine wpList_value (o := ⟨some 20, _, _, _, _, _⟩) rfl (.agg spanVals.toArray) (by kernel_rfl) ?_)
    | (refine wpList_store_mid (op := ⟨none, .store 143 _ _, _, _, _, _⟩) rfl 143 (.tmp 4) (.tmp 20) rfl (w.heap.size + 1) 0 spanVals.toArray rfl rfl HTH.out (by kernel_rfl) (by kernel_rfl) ?_; refine Hid.out ?_))
  have hbW : Below w.heap.size w (((w.alloc (.cells #[.int .i64 c.workers, .int .i64 c.levels, .int .i64 c.bits, .int .i64 c.nodes, .int .i64 c.tickets, .int .i64 c.slack, .int .i64 c.first, .int .i64 c.conns, .int .i64 c.timeout, .int .i64 c.base, .int .i64 c.cap, .int .i64 c.jitter, .int .i64 c.attempts] 48)).alloc (.cells #[.int .i64 0, .int .i64 0, .int .i64 0, .int .i64 0, .int .i64 0, .int .i64 0, .int .i64 0, .int .i64 0, .int .i64 0, .int .i64 0, .int .i64 0, .int .i64 0, .int .i64 0, .int .i64 0, .int .i64 0, .int .i64 0, .int .i64 0, .int .i64 0, .int .i64 0, .int .i64 0, .int .i64 0, .int .i64 0, .int .i64 0, .int .i64 0, .int .i64 0, .int .i64 0] 143)).setCells (w.heap.size + 1) 0 spanVals) := below_setCells _ (by omega) _ _ _ (((Below.refl _ w).alloc (Nat.le_refl _) _).alloc (by simp) _)
  have hr : (((w.alloc (.cells #[.int .i64 c.workers, .int .i64 c.levels, .int .i64 c.bits, .int .i64 c.nodes, .int .i64 c.tickets, .int .i64 c.slack, .int .i64 c.first, .int .i64 c.conns, .int .i64 c.timeout, .int .i64 c.base, .int .i64 c.cap, .int .i64 c.jitter, .int .i64 c.attempts] 48)).alloc (.cells #[.int .i64 0, .int .i64 0, .int .i64 0, .int .i64 0, .int .i64 0, .int .i64 0, .int .i64 0, .int .i64 0, .int .i64 0, .int .i64 0, .int .i64 0, .int .i64 0, .int .i64 0, .int .i64 0, .int .i64 0, .int .i64 0, .int .i64 0, .int .i64 0, .int .i64 0, .int .i64 0, .int .i64 0, .int .i64 0, .int .i64 0, .int .i64 0, .int .i64 0, .int .i64 0] 143)).setCells (w.heap.size + 1) 0 spanVals).rangeAt (w.heap.size + 1) 0 spanVals := World.rangeAt_setCells_same _ _ _ _ HTH.out
  have hsz : (((w.alloc (.cells #[.int .i64 c.workers, .int .i64 c.levels, .int .i64 c.bits, .int .i64 c.nodes, .int .i64 c.tickets, .int .i64 c.slack, .int .i64 c.first, .int .i64 c.conns, .int .i64 c.timeout, .int .i64 c.base, .int .i64 c.cap, .int .i64 c.jitter, .int .i64 c.attempts] 48)).alloc (.cells #[.int .i64 0, .int .i64 0, .int .i64 0, .int .i64 0, .int .i64 0, .int .i64 0, .int .i64 0, .int .i64 0, .int .i64 0, .int .i64 0, .int .i64 0, .int .i64 0, .int .i64 0, .int .i64 0, .int .i64 0, .int .i64 0, .int .i64 0, .int .i64 0, .int .i64 0, .int .i64 0, .int .i64 0, .int .i64 0, .int .i64 0, .int .i64 0, .int .i64 0, .int .i64 0] 143)).setCells (w.heap.size + 1) 0 spanVals).heap.size = w.heap.size + 1 + 1 := by rw [size_setCells]; simp
  have hcv : ∀ o, (((w.alloc (.cells #[.int .i64 c.workers, .int .i64 c.levels, .int .i64 c.bits, .int .i64 c.nodes, .int .i64 c.tickets, .int .i64 c.slack, .int .i64 c.first, .int .i64 c.conns, .int .i64 c.timeout, .int .i64 c.base, .int .i64 c.cap, .int .i64 c.jitter, .int .i64 c.attempts] 48)).alloc (.cells #[.int .i64 0, .int .i64 0, .int .i64 0, .int .i64 0, .int .i64 0, .int .i64 0, .int .i64 0, .int .i64 0, .int .i64 0, .int .i64 0, .int .i64 0, .int .i64 0, .int .i64 0, .int .i64 0, .int .i64 0, .int .i64 0, .int .i64 0, .int .i64 0, .int .i64 0, .int .i64 0, .int .i64 0, .int .i64 0, .int .i64 0, .int .i64 0, .int .i64 0, .int .i64 0] 143)).setCells (w.heap.size + 1) 0 spanVals).cell? ⟨w.heap.size, o, none⟩ = ((w.alloc (.cells #[.int .i64 c.workers, .int .i64 c.levels, .int .i64 c.bits, .int .i64 c.nodes, .int .i64 c.tickets, .int .i64 c.slack, .int .i64 c.first, .int .i64 c.conns, .int .i64 c.timeout, .int .i64 c.base, .int .i64 c.cap, .int .i64 c.jitter, .int .i64 c.attempts] 48)).alloc (.cells #[.int .i64 0, .int .i64 0, .int .i64 0, .int .i64 0, .int .i64 0, .int .i64 0, .int .i64 0, .int .i64 0, .int .i64 0, .int .i64 0, .int .i64 0, .int .i64 0, .int .i64 0, .int .i64 0, .int .i64 0, .int .i64 0, .int .i64 0, .int .i64 0, .int .i64 0, .int .i64 0, .int .i64 0, .int .i64 0, .int .i64 0, .int .i64 0, .int .i64 0, .int .i64 0] 143)).cell? ⟨w.heap.size, o, none⟩ := fun o => World.cell?_setCells_out _ _ _ _ _ (by intro h; simp at h)
  have q0 : (((w.alloc (.cells #[.int .i64 c.workers, .int .i64 c.levels, .int .i64 c.bits, .int .i64 c.nodes, .int .i64 c.tickets, .int .i64 c.slack, .int .i64 c.first, .int .i64 c.conns, .int .i64 c.timeout, .int .i64 c.base, .int .i64 c.cap, .int .i64 c.jitter, .int .i64 c.attempts] 48)).alloc (.cells #[.int .i64 0, .int .i64 0, .int .i64 0, .int .i64 0, .int .i64 0, .int .i64 0, .int .i64 0, .int .i64 0, .int .i64 0, .int .i64 0, .int .i64 0, .int .i64 0, .int .i64 0, .int .i64 0, .int .i64 0, .int .i64 0, .int .i64 0, .int .i64 0, .int .i64 0, .int .i64 0, .int .i64 0, .int .i64 0, .int .i64 0, .int .i64 0, .int .i64 0, .int .i64 0] 143)).setCells (w.heap.size + 1) 0 spanVals).cell? ⟨w.heap.size, 0, none⟩ = some (.int .i64 c.workers) := by rw [hcv]; go_simp
  have q1 : (((w.alloc (.cells #[.int .i64 c.workers, .int .i64 c.levels, .int .i64 c.bits, .int .i64 c.nodes, .int .i64 c.tickets, .int .i64 c.slack, .int .i64 c.first, .int .i64 c.conns, .int .i64 c.timeout, .int .i64 c.base, .int .i64 c.cap, .int .i64 c.jitter, .int .i64 c.attempts] 48)).alloc (.cells #[.int .i64 0, .int .i64 0, .int .i64 0, .int .i64 0, .int .i64 0, .int .i64 0, .int .i64 0, .int .i64 0, .int .i64 0, .int .i64 0, .int .i64 0, .int .i64 0, .int .i64 0, .int .i64 0, .int .i64 0, .int .i64 0, .int .i64 0, .int .i64 0, .int .i64 0, .int .i64 0, .int .i64 0, .int .i64 0, .int .i64 0, .int .i64 0, .int .i64 0, .int .i64 0] 143)).setCells (w.heap.size + 1) 0 spanVals).cell? ⟨w.heap.size, 1, none⟩ = some (.int .i64 c.levels) := by rw [hcv]; go_simp
  have q2 : (((w.alloc (.cells #[.int .i64 c.workers, .int .i64 c.levels, .int .i64 c.bits, .int .i64 c.nodes, .int .i64 c.tickets, .int .i64 c.slack, .int .i64 c.first, .int .i64 c.conns, .int .i64 c.timeout, .int .i64 c.base, .int .i64 c.cap, .int .i64 c.jitter, .int .i64 c.attempts] 48)).alloc (.cells #[.int .i64 0, .int .i64 0, .int .i64 0, .int .i64 0, .int .i64 0, .int .i64 0, .int .i64 0, .int .i64 0, .int .i64 0, .int .i64 0, .int .i64 0, .int .i64 0, .int .i64 0, .int .i64 0, .int .i64 0, .int .i64 0, .int .i64 0, .int .i64 0, .int .i64 0, .int .i64 0, .int .i64 0, .int .i64 0, .int .i64 0, .int .i64 0, .int .i64 0, .int .i64 0] 143)).setCells (w.heap.size + 1) 0 spanVals).cell? ⟨w.heap.size, 2, none⟩ = some (.int .i64 c.bits) := by rw [hcv]; go_simp
  have q3 : (((w.alloc (.cells #[.int .i64 c.workers, .int .i64 c.levels, .int .i64 c.bits, .int .i64 c.nodes, .int .i64 c.tickets, .int .i64 c.slack, .int .i64 c.first, .int .i64 c.conns, .int .i64 c.timeout, .int .i64 c.base, .int .i64 c.cap, .int .i64 c.jitter, .int .i64 c.attempts] 48)).alloc (.cells #[.int .i64 0, .int .i64 0, .int .i64 0, .int .i64 0, .int .i64 0, .int .i64 0, .int .i64 0, .int .i64 0, .int .i64 0, .int .i64 0, .int .i64 0, .int .i64 0, .int .i64 0, .int .i64 0, .int .i64 0, .int .i64 0, .int .i64 0, .int .i64 0, .int .i64 0, .int .i64 0, .int .i64 0, .int .i64 0, .int .i64 0, .int .i64 0, .int .i64 0, .int .i64 0] 143)).setCells (w.heap.size + 1) 0 spanVals).cell? ⟨w.heap.size, 3, none⟩ = some (.int .i64 c.nodes) := by rw [hcv]; go_simp
  have q4 : (((w.alloc (.cells #[.int .i64 c.workers, .int .i64 c.levels, .int .i64 c.bits, .int .i64 c.nodes, .int .i64 c.tickets, .int .i64 c.slack, .int .i64 c.first, .int .i64 c.conns, .int .i64 c.timeout, .int .i64 c.base, .int .i64 c.cap, .int .i64 c.jitter, .int .i64 c.attempts] 48)).alloc (.cells #[.int .i64 0, .int .i64 0, .int .i64 0, .int .i64 0, .int .i64 0, .int .i64 0, .int .i64 0, .int .i64 0, .int .i64 0, .int .i64 0, .int .i64 0, .int .i64 0, .int .i64 0, .int .i64 0, .int .i64 0, .int .i64 0, .int .i64 0, .int .i64 0, .int .i64 0, .int .i64 0, .int .i64 0, .int .i64 0, .int .i64 0, .int .i64 0, .int .i64 0, .int .i64 0] 143)).setCells (w.heap.size + 1) 0 spanVals).cell? ⟨w.heap.size, 4, none⟩ = some (.int .i64 c.tickets) := by rw [hcv]; go_simp
  have q5 : (((w.alloc (.cells #[.int .i64 c.workers, .int .i64 c.levels, .int .i64 c.bits, .int .i64 c.nodes, .int .i64 c.tickets, .int .i64 c.slack, .int .i64 c.first, .int .i64 c.conns, .int .i64 c.timeout, .int .i64 c.base, .int .i64 c.cap, .int .i64 c.jitter, .int .i64 c.attempts] 48)).alloc (.cells #[.int .i64 0, .int .i64 0, .int .i64 0, .int .i64 0, .int .i64 0, .int .i64 0, .int .i64 0, .int .i64 0, .int .i64 0, .int .i64 0, .int .i64 0, .int .i64 0, .int .i64 0, .int .i64 0, .int .i64 0, .int .i64 0, .int .i64 0, .int .i64 0, .int .i64 0, .int .i64 0, .int .i64 0, .int .i64 0, .int .i64 0, .int .i64 0, .int .i64 0, .int .i64 0] 143)).setCells (w.heap.size + 1) 0 spanVals).cell? ⟨w.heap.size, 5, none⟩ = some (.int .i64 c.slack) := by rw [hcv]; go_simp
  have q6 : (((w.alloc (.cells #[.int .i64 c.workers, .int .i64 c.levels, .int .i64 c.bits, .int .i64 c.nodes, .int .i64 c.tickets, .int .i64 c.slack, .int .i64 c.first, .int .i64 c.conns, .int .i64 c.timeout, .int .i64 c.base, .int .i64 c.cap, .int .i64 c.jitter, .int .i64 c.attempts] 48)).alloc (.cells #[.int .i64 0, .int .i64 0, .int .i64 0, .int .i64 0, .int .i64 0, .int .i64 0, .int .i64 0, .int .i64 0, .int .i64 0, .int .i64 0, .int .i64 0, .int .i64 0, .int .i64 0, .int .i64 0, .int .i64 0, .int .i64 0, .int .i64 0, .int .i64 0, .int .i64 0, .int .i64 0, .int .i64 0, .int .i64 0, .int .i64 0, .int .i64 0, .int .i64 0, .int .i64 0] 143)).setCells (w.heap.size + 1) 0 spanVals).cell? ⟨w.heap.size, 6, none⟩ = some (.int .i64 c.first) := by rw [hcv]; go_simp
  have q7 : (((w.alloc (.cells #[.int .i64 c.workers, .int .i64 c.levels, .int .i64 c.bits, .int .i64 c.nodes, .int .i64 c.tickets, .int .i64 c.slack, .int .i64 c.first, .int .i64 c.conns, .int .i64 c.timeout, .int .i64 c.base, .int .i64 c.cap, .int .i64 c.jitter, .int .i64 c.attempts] 48)).alloc (.cells #[.int .i64 0, .int .i64 0, .int .i64 0, .int .i64 0, .int .i64 0, .int .i64 0, .int .i64 0, .int .i64 0, .int .i64 0, .int .i64 0, .int .i64 0, .int .i64 0, .int .i64 0, .int .i64 0, .int .i64 0, .int .i64 0, .int .i64 0, .int .i64 0, .int .i64 0, .int .i64 0, .int .i64 0, .int .i64 0, .int .i64 0, .int .i64 0, .int .i64 0, .int .i64 0] 143)).setCells (w.heap.size + 1) 0 spanVals).cell? ⟨w.heap.size, 7, none⟩ = some (.int .i64 c.conns) := by rw [hcv]; go_simp
  have q8 : (((w.alloc (.cells #[.int .i64 c.workers, .int .i64 c.levels, .int .i64 c.bits, .int .i64 c.nodes, .int .i64 c.tickets, .int .i64 c.slack, .int .i64 c.first, .int .i64 c.conns, .int .i64 c.timeout, .int .i64 c.base, .int .i64 c.cap, .int .i64 c.jitter, .int .i64 c.attempts] 48)).alloc (.cells #[.int .i64 0, .int .i64 0, .int .i64 0, .int .i64 0, .int .i64 0, .int .i64 0, .int .i64 0, .int .i64 0, .int .i64 0, .int .i64 0, .int .i64 0, .int .i64 0, .int .i64 0, .int .i64 0, .int .i64 0, .int .i64 0, .int .i64 0, .int .i64 0, .int .i64 0, .int .i64 0, .int .i64 0, .int .i64 0, .int .i64 0, .int .i64 0, .int .i64 0, .int .i64 0] 143)).setCells (w.heap.size + 1) 0 spanVals).cell? ⟨w.heap.size, 8, none⟩ = some (.int .i64 c.timeout) := by rw [hcv]; go_simp
  have q9 : (((w.alloc (.cells #[.int .i64 c.workers, .int .i64 c.levels, .int .i64 c.bits, .int .i64 c.nodes, .int .i64 c.tickets, .int .i64 c.slack, .int .i64 c.first, .int .i64 c.conns, .int .i64 c.timeout, .int .i64 c.base, .int .i64 c.cap, .int .i64 c.jitter, .int .i64 c.attempts] 48)).alloc (.cells #[.int .i64 0, .int .i64 0, .int .i64 0, .int .i64 0, .int .i64 0, .int .i64 0, .int .i64 0, .int .i64 0, .int .i64 0, .int .i64 0, .int .i64 0, .int .i64 0, .int .i64 0, .int .i64 0, .int .i64 0, .int .i64 0, .int .i64 0, .int .i64 0, .int .i64 0, .int .i64 0, .int .i64 0, .int .i64 0, .int .i64 0, .int .i64 0, .int .i64 0, .int .i64 0] 143)).setCells (w.heap.size + 1) 0 spanVals).cell? ⟨w.heap.size, 9, none⟩ = some (.int .i64 c.base) := by rw [hcv]; go_simp
  have q10 : (((w.alloc (.cells #[.int .i64 c.workers, .int .i64 c.levels, .int .i64 c.bits, .int .i64 c.nodes, .int .i64 c.tickets, .int .i64 c.slack, .int .i64 c.first, .int .i64 c.conns, .int .i64 c.timeout, .int .i64 c.base, .int .i64 c.cap, .int .i64 c.jitter, .int .i64 c.attempts] 48)).alloc (.cells #[.int .i64 0, .int .i64 0, .int .i64 0, .int .i64 0, .int .i64 0, .int .i64 0, .int .i64 0, .int .i64 0, .int .i64 0, .int .i64 0, .int .i64 0, .int .i64 0, .int .i64 0, .int .i64 0, .int .i64 0, .int .i64 0, .int .i64 0, .int .i64 0, .int .i64 0, .int .i64 0, .int .i64 0, .int .i64 0, .int .i64 0, .int .i64 0, .int .i64 0, .int .i64 0] 143)).setCells (w.heap.size + 1) 0 spanVals).cell? ⟨w.heap.size, 10, none⟩ = some (.int .i64 c.cap) := by rw [hcv]; go_simp
  have q11 : (((w.alloc (.cells #[.int .i64 c.workers, .int .i64 c.levels, .int .i64 c.bits, .int .i64 c.nodes, .int .i64 c.tickets, .int .i64 c.slack, .int .i64 c.first, .int .i64 c.conns, .int .i64 c.timeout, .int .i64 c.base, .int .i64 c.cap, .int .i64 c.jitter, .int .i64 c.attempts] 48)).alloc (.cells #[.int .i64 0, .int .i64 0, .int .i64 0, .int .i64 0, .int .i64 0, .int .i64 0, .int .i64 0, .int .i64 0, .int .i64 0, .int .i64 0, .int .i64 0, .int .i64 0, .int .i64 0, .int .i64 0, .int .i64 0, .int .i64 0, .int .i64 0, .int .i64 0, .int .i64 0, .int .i64 0, .int .i64 0, .int .i64 0, .int .i64 0, .int .i64 0, .int .i64 0, .int .i64 0] 143)).setCells (w.heap.size + 1) 0 spanVals).cell? ⟨w.heap.size, 11, none⟩ = some (.int .i64 c.jitter) := by rw [hcv]; go_simp
  have q12 : (((w.alloc (.cells #[.int .i64 c.workers, .int .i64 c.levels, .int .i64 c.bits, .int .i64 c.nodes, .int .i64 c.tickets, .int .i64 c.slack, .int .i64 c.first, .int .i64 c.conns, .int .i64 c.timeout, .int .i64 c.base, .int .i64 c.cap, .int .i64 c.jitter, .int .i64 c.attempts] 48)).alloc (.cells #[.int .i64 0, .int .i64 0, .int .i64 0, .int .i64 0, .int .i64 0, .int .i64 0, .int .i64 0, .int .i64 0, .int .i64 0, .int .i64 0, .int .i64 0, .int .i64 0, .int .i64 0, .int .i64 0, .int .i64 0, .int .i64 0, .int .i64 0, .int .i64 0, .int .i64 0, .int .i64 0, .int .i64 0, .int .i64 0, .int .i64 0, .int .i64 0, .int .i64 0, .int .i64 0] 143)).setCells (w.heap.size + 1) 0 spanVals).cell? ⟨w.heap.size, 12, none⟩ = some (.int .i64 c.attempts) := by rw [hcv]; go_simp
  generalize hW : World.setCells ((w.alloc (.cells #[.int .i64 c.workers, .int .i64 c.levels, .int .i64 c.bits, .int .i64 c.nodes, .int .i64 c.tickets, .int .i64 c.slack, .int .i64 c.first, .int .i64 c.conns, .int .i64 c.timeout, .int .i64 c.base, .int .i64 c.cap, .int .i64 c.jitter, .int .i64 c.attempts] 48)).alloc (.cells #[.int .i64 0, .int .i64 0, .int .i64 0, .int .i64 0, .int .i64 0, .int .i64 0, .int .i64 0, .int .i64 0, .int .i64 0, .int .i64 0, .int .i64 0, .int .i64 0, .int .i64 0, .int .i64 0, .int .i64 0, .int .i64 0, .int .i64 0, .int .i64 0, .int .i64 0, .int .i64 0, .int .i64 0, .int .i64 0, .int .i64 0, .int .i64 0, .int .i64 0, .int .i64 0] 143)) (w.heap.size + 1) 0 spanVals = W at hbW hr hsz hcv q0 q1 q2 q3 q4 q5 q6 q7 q8 q9 q10 q11 q12 ⊢
  clear hW hcv HTH
  unfold Hid
  go_wp2_with fail
  refine (HL.out _).mono ?_
  rintro e w1 ⟨rfl, hb⟩
  have HLO : Hid (∀ k, k < 13 → w1.cell? ⟨w.heap.size + 1, k * 2, none⟩ = some (.int .i64 (loOf k : Nat))) := fun k hk => below_cell hb (by have := hr (k * 2) _ (spanVals_lo k hk); rwa [Nat.zero_add] at this)
  have HHI : Hid (∀ k, k < 13 → w1.cell? ⟨w.heap.size + 1, k * 2 + 1, none⟩ = some (.int .i64 (hiOf k : Nat))) := fun k hk => below_cell hb (by have := hr (k * 2 + 1) _ (spanVals_hi k hk); rwa [Nat.zero_add] at this)
  have HB := Go.Lib.hid (hbW.trans (hb.mono (by omega)))
  clear hb hbW hr hsz q0 q1 q2 q3 q4 q5 q6 q7 q8 q9 q10 q11 q12
  go_wp2
  go_loop [23] (fun i => ∃ k : Nat, k ≤ 13 ∧ i = .int .i64 k) (fun i => 13 - (intOf i).toNat)
  case atStart => exact ⟨0, by omega, rfl⟩
  case round =>
    obtain ⟨k, hk, rfl⟩ := hrel
    by_cases hlt : k < 13
    · have e1 := HLO.out k hlt
      have e2 := HHI.out k hlt
      have e3 := HI.out w1 k hlt
      obtain ⟨b1, b2⟩ := HO.out k hlt
      generalize c.nth k = x at *
      generalize loOf k = lo at *
      generalize hiOf k = hi at *
      go_wp2
      refine ⟨⟨k + 1, by omega, by go_num⟩, by simp [intOf]; omega⟩
    · go_wp2
      go_ret2
      exact ⟨rfl, HB.out⟩
end Go.Proofs.Ytlbjjooiiikmjaa

