/- Making a plan and an arena. -/
import Derived.Test.YtlbjjooiiikmjaaN
namespace Go.Proofs.Ytlbjjooiiikmjaa
open Go.RowKit
set_option maxRecDepth 100000
set_option linter.unusedVariables false

theorem shard_wrap {c : Cf} (hok : c.Ok) : wrap64 (3 + wrap64 ((c.levels : Int) * (1 + (c.slots : Int)))) = (c.shard : Int) := by
  have hL := hok.hL
  have hsh := hok.shard_le
  have d1 : ((c.shard : Nat) : Int) = 3 + (c.levels : Int) * (1 + (c.slots : Int)) := by unfold Cf.shard; rw [Int.natCast_add, Int.natCast_mul]; rfl
  have h0 : 0 ≤ (c.levels : Int) * (1 + (c.slots : Int)) := Int.mul_nonneg (by omega) (by omega)
  generalize (c.levels : Int) * (1 + (c.slots : Int)) = m at *
  rw [IntWalk.wrap64_in m (by omega), IntWalk.wrap64_in (3 + m) (by omega), d1]
theorem nodesAt_wrap {c : Cf} (hok : c.Ok) : wrap64 (3 + wrap64 ((c.workers : Int) * (c.shard : Int))) = (c.nodesAt : Int) := by
  have hL := hok.hW
  have d1 : ((c.nodesAt : Nat) : Int) = 3 + (c.workers : Int) * (c.shard : Int) := by unfold Cf.nodesAt; rw [Int.natCast_add, Int.natCast_mul]; rfl
  have h0 : 0 ≤ (c.workers : Int) * (c.shard : Int) := Int.mul_nonneg (by omega) (by omega)
  generalize (c.workers : Int) * (c.shard : Int) = m at *
  rw [IntWalk.wrap64_in m (by omega), IntWalk.wrap64_in (3 + m) (by omega), d1]

set_option maxHeartbeats 1000000 in
theorem plan_new (c : Cf) (hok : c.Ok) (w : World) :
    Calls Try.prog 42 #[.agg c.vals] w fun e w' => ∃ pb, e = .returned (.tuple #[.pointer (some ⟨pb, 0, none⟩), .int .i64 0]) ∧ PlanAt w' pb c ∧ Below w.heap.size w w' ∧ w.heap.size ≤ pb := by
  have HC := Go.Lib.hid (plan_check c hok)
  have hsl := hok.slots_le
  have hsh := hok.shard_le
  have hnd := hok.nodesAt_le
  have htk := hok.ticketsAt_le
  have hcn := hok.connsAt_le
  have hn2 := hok.n2
  have ht2 := hok.t2
  have hb1 := hok.b1
  have hb2 := hok.b2
  have hl2 := hok.l2
  have hw2 := hok.w2
  have hW := hok.hW
  have hL := hok.hL
  have d3 : c.ticketsAt = c.nodesAt + 4 * c.nodes := rfl
  have d4 : c.connsAt = c.ticketsAt + 3 * c.tickets := rfl
  have d0 : ((c.slots : Nat) : Int) = 2 ^ c.bits := by unfold Cf.slots; push_cast; rfl
  have S1 : Hid (wrap64 (3 + wrap64 ((c.levels : Int) * (1 + (c.slots : Int)))) = (c.shard : Int)) := shard_wrap hok
  have S2 : Hid (wrap64 (3 + wrap64 ((c.workers : Int) * (c.shard : Int))) = (c.nodesAt : Int)) := nodesAt_wrap hok
  generalize hgcn : c.connsAt = cn at *
  replace hgcn := Go.Lib.hid hgcn
  generalize hgtk : c.ticketsAt = tk at *
  replace hgtk := Go.Lib.hid hgtk
  generalize hgnd : c.nodesAt = nd at *
  replace hgnd := Go.Lib.hid hgnd
  generalize hgsh : c.shard = sh at *
  replace hgsh := Go.Lib.hid hgsh
  generalize hgsl : c.slots = sl at *
  replace hgsl := Go.Lib.hid hgsl
  clear hok
  unfold Cf.vals at HC ⊢
  go_enter Try.func42, Try.ntmps42
  go_wp2_with fail
  refine (HC.out _).mono ?_
  rintro e w1 ⟨rfl, hb⟩
  obtain ⟨hc, _⟩ := bcells hb
  have q0 : w1.cell? ⟨w.heap.size, 0, none⟩ = some (.int .i64 c.workers) := by rw [hc _ _ (by simp)]; go_simp
  have q1 : w1.cell? ⟨w.heap.size, 1, none⟩ = some (.int .i64 c.levels) := by rw [hc _ _ (by simp)]; go_simp
  have q2 : w1.cell? ⟨w.heap.size, 2, none⟩ = some (.int .i64 c.bits) := by rw [hc _ _ (by simp)]; go_simp
  have q3 : w1.cell? ⟨w.heap.size, 3, none⟩ = some (.int .i64 c.nodes) := by rw [hc _ _ (by simp)]; go_simp
  have q4 : w1.cell? ⟨w.heap.size, 4, none⟩ = some (.int .i64 c.tickets) := by rw [hc _ _ (by simp)]; go_simp
  have q5 : w1.cell? ⟨w.heap.size, 5, none⟩ = some (.int .i64 c.slack) := by rw [hc _ _ (by simp)]; go_simp
  have q6 : w1.cell? ⟨w.heap.size, 6, none⟩ = some (.int .i64 c.first) := by rw [hc _ _ (by simp)]; go_simp
  have q7 : w1.cell? ⟨w.heap.size, 7, none⟩ = some (.int .i64 c.conns) := by rw [hc _ _ (by simp)]; go_simp
  have q8 : w1.cell? ⟨w.heap.size, 8, none⟩ = some (.int .i64 c.timeout) := by rw [hc _ _ (by simp)]; go_simp
  have q9 : w1.cell? ⟨w.heap.size, 9, none⟩ = some (.int .i64 c.base) := by rw [hc _ _ (by simp)]; go_simp
  have q10 : w1.cell? ⟨w.heap.size, 10, none⟩ = some (.int .i64 c.cap) := by rw [hc _ _ (by simp)]; go_simp
  have q11 : w1.cell? ⟨w.heap.size, 11, none⟩ = some (.int .i64 c.jitter) := by rw [hc _ _ (by simp)]; go_simp
  have q12 : w1.cell? ⟨w.heap.size, 12, none⟩ = some (.int .i64 c.attempts) := by rw [hc _ _ (by simp)]; go_simp
  have HB := Go.Lib.hid (((Below.refl _ w).alloc (Nat.le_refl _) _).trans (hb.mono (by simp)))
  have hz : w.heap.size < w1.heap.size := by have := hb.size; simp at this; omega
  clear hc hb
  have u0 : IntKind.i64.wrap (2 ^ c.bits) = (sl : Int) := by rw [← d0]; exact IntWalk.i64_in _ (by omega)
  have hz2 : w1.heap.size ≠ w.heap.size := by omega
  have V16 : Hid (((nd : Int) + 4 * (c.nodes : Int)) = tk) := by unfold Hid; omega
  have V17 : Hid (((tk : Int) + 3 * (c.tickets : Int)) = cn) := by unfold Hid; omega
  have D0 := Go.Lib.hid d0
  have D3 := Go.Lib.hid d3
  have D4 := Go.Lib.hid d4
  clear d0 d3 d4 hW hL
  go_wp2
  go_still_tail 5, (by kernel_rfl)
  change wpList _ _ _ _ _ (World.drew _)
  go_wp2
  have hbW : Below w.heap.size w ((w1.alloc (.cells #[.int .i64 c.workers, .int .i64 c.levels, .int .i64 c.bits, .int .i64 c.nodes, .int .i64 c.tickets, .int .i64 c.slack, .int .i64 c.first, .int .i64 c.conns, .int .i64 c.timeout, .int .i64 c.base, .int .i64 c.cap, .int .i64 c.jitter, .int .i64 c.attempts, .int .i64 sl, .int .i64 0, .int .i64 0, .int .i64 0, .int .i64 0] 117)).drew) := (HB.out.trans ((Below.refl _ w1).alloc HB.out.size _)).drew
  have r0 : ((w1.alloc (.cells #[.int .i64 c.workers, .int .i64 c.levels, .int .i64 c.bits, .int .i64 c.nodes, .int .i64 c.tickets, .int .i64 c.slack, .int .i64 c.first, .int .i64 c.conns, .int .i64 c.timeout, .int .i64 c.base, .int .i64 c.cap, .int .i64 c.jitter, .int .i64 c.attempts, .int .i64 sl, .int .i64 0, .int .i64 0, .int .i64 0, .int .i64 0] 117)).drew).cell? ⟨w.heap.size, 0, none⟩ = some (.int .i64 c.workers) := by go_simp
  have r1 : ((w1.alloc (.cells #[.int .i64 c.workers, .int .i64 c.levels, .int .i64 c.bits, .int .i64 c.nodes, .int .i64 c.tickets, .int .i64 c.slack, .int .i64 c.first, .int .i64 c.conns, .int .i64 c.timeout, .int .i64 c.base, .int .i64 c.cap, .int .i64 c.jitter, .int .i64 c.attempts, .int .i64 sl, .int .i64 0, .int .i64 0, .int .i64 0, .int .i64 0] 117)).drew).cell? ⟨w.heap.size, 1, none⟩ = some (.int .i64 c.levels) := by go_simp
  have r3 : ((w1.alloc (.cells #[.int .i64 c.workers, .int .i64 c.levels, .int .i64 c.bits, .int .i64 c.nodes, .int .i64 c.tickets, .int .i64 c.slack, .int .i64 c.first, .int .i64 c.conns, .int .i64 c.timeout, .int .i64 c.base, .int .i64 c.cap, .int .i64 c.jitter, .int .i64 c.attempts, .int .i64 sl, .int .i64 0, .int .i64 0, .int .i64 0, .int .i64 0] 117)).drew).cell? ⟨w.heap.size, 3, none⟩ = some (.int .i64 c.nodes) := by go_simp
  have r4 : ((w1.alloc (.cells #[.int .i64 c.workers, .int .i64 c.levels, .int .i64 c.bits, .int .i64 c.nodes, .int .i64 c.tickets, .int .i64 c.slack, .int .i64 c.first, .int .i64 c.conns, .int .i64 c.timeout, .int .i64 c.base, .int .i64 c.cap, .int .i64 c.jitter, .int .i64 c.attempts, .int .i64 sl, .int .i64 0, .int .i64 0, .int .i64 0, .int .i64 0] 117)).drew).cell? ⟨w.heap.size, 4, none⟩ = some (.int .i64 c.tickets) := by go_simp
  have p0 : ((w1.alloc (.cells #[.int .i64 c.workers, .int .i64 c.levels, .int .i64 c.bits, .int .i64 c.nodes, .int .i64 c.tickets, .int .i64 c.slack, .int .i64 c.first, .int .i64 c.conns, .int .i64 c.timeout, .int .i64 c.base, .int .i64 c.cap, .int .i64 c.jitter, .int .i64 c.attempts, .int .i64 sl, .int .i64 0, .int .i64 0, .int .i64 0, .int .i64 0] 117)).drew).cell? ⟨w1.heap.size, 0, none⟩ = some (.int .i64 c.workers) := by go_simp
  have p1 : ((w1.alloc (.cells #[.int .i64 c.workers, .int .i64 c.levels, .int .i64 c.bits, .int .i64 c.nodes, .int .i64 c.tickets, .int .i64 c.slack, .int .i64 c.first, .int .i64 c.conns, .int .i64 c.timeout, .int .i64 c.base, .int .i64 c.cap, .int .i64 c.jitter, .int .i64 c.attempts, .int .i64 sl, .int .i64 0, .int .i64 0, .int .i64 0, .int .i64 0] 117)).drew).cell? ⟨w1.heap.size, 1, none⟩ = some (.int .i64 c.levels) := by go_simp
  have p2 : ((w1.alloc (.cells #[.int .i64 c.workers, .int .i64 c.levels, .int .i64 c.bits, .int .i64 c.nodes, .int .i64 c.tickets, .int .i64 c.slack, .int .i64 c.first, .int .i64 c.conns, .int .i64 c.timeout, .int .i64 c.base, .int .i64 c.cap, .int .i64 c.jitter, .int .i64 c.attempts, .int .i64 sl, .int .i64 0, .int .i64 0, .int .i64 0, .int .i64 0] 117)).drew).cell? ⟨w1.heap.size, 2, none⟩ = some (.int .i64 c.bits) := by go_simp
  have p3 : ((w1.alloc (.cells #[.int .i64 c.workers, .int .i64 c.levels, .int .i64 c.bits, .int .i64 c.nodes, .int .i64 c.tickets, .int .i64 c.slack, .int .i64 c.first, .int .i64 c.conns, .int .i64 c.timeout, .int .i64 c.base, .int .i64 c.cap, .int .i64 c.jitter, .int .i64 c.attempts, .int .i64 sl, .int .i64 0, .int .i64 0, .int .i64 0, .int .i64 0] 117)).drew).cell? ⟨w1.heap.size, 3, none⟩ = some (.int .i64 c.nodes) := by go_simp
  have p4 : ((w1.alloc (.cells #[.int .i64 c.workers, .int .i64 c.levels, .int .i64 c.bits, .int .i64 c.nodes, .int .i64 c.tickets, .int .i64 c.slack, .int .i64 c.first, .int .i64 c.conns, .int .i64 c.timeout, .int .i64 c.base, .int .i64 c.cap, .int .i64 c.jitter, .int .i64 c.attempts, .int .i64 sl, .int .i64 0, .int .i64 0, .int .i64 0, .int .i64 0] 117)).drew).cell? ⟨w1.heap.size, 4, none⟩ = some (.int .i64 c.tickets) := by go_simp
  have p5 : ((w1.alloc (.cells #[.int .i64 c.workers, .int .i64 c.levels, .int .i64 c.bits, .int .i64 c.nodes, .int .i64 c.tickets, .int .i64 c.slack, .int .i64 c.first, .int .i64 c.conns, .int .i64 c.timeout, .int .i64 c.base, .int .i64 c.cap, .int .i64 c.jitter, .int .i64 c.attempts, .int .i64 sl, .int .i64 0, .int .i64 0, .int .i64 0, .int .i64 0] 117)).drew).cell? ⟨w1.heap.size, 5, none⟩ = some (.int .i64 c.slack) := by go_simp
  have p6 : ((w1.alloc (.cells #[.int .i64 c.workers, .int .i64 c.levels, .int .i64 c.bits, .int .i64 c.nodes, .int .i64 c.tickets, .int .i64 c.slack, .int .i64 c.first, .int .i64 c.conns, .int .i64 c.timeout, .int .i64 c.base, .int .i64 c.cap, .int .i64 c.jitter, .int .i64 c.attempts, .int .i64 sl, .int .i64 0, .int .i64 0, .int .i64 0, .int .i64 0] 117)).drew).cell? ⟨w1.heap.size, 6, none⟩ = some (.int .i64 c.first) := by go_simp
  have p7 : ((w1.alloc (.cells #[.int .i64 c.workers, .int .i64 c.levels, .int .i64 c.bits, .int .i64 c.nodes, .int .i64 c.tickets, .int .i64 c.slack, .int .i64 c.first, .int .i64 c.conns, .int .i64 c.timeout, .int .i64 c.base, .int .i64 c.cap, .int .i64 c.jitter, .int .i64 c.attempts, .int .i64 sl, .int .i64 0, .int .i64 0, .int .i64 0, .int .i64 0] 117)).drew).cell? ⟨w1.heap.size, 7, none⟩ = some (.int .i64 c.conns) := by go_simp
  have p8 : ((w1.alloc (.cells #[.int .i64 c.workers, .int .i64 c.levels, .int .i64 c.bits, .int .i64 c.nodes, .int .i64 c.tickets, .int .i64 c.slack, .int .i64 c.first, .int .i64 c.conns, .int .i64 c.timeout, .int .i64 c.base, .int .i64 c.cap, .int .i64 c.jitter, .int .i64 c.attempts, .int .i64 sl, .int .i64 0, .int .i64 0, .int .i64 0, .int .i64 0] 117)).drew).cell? ⟨w1.heap.size, 8, none⟩ = some (.int .i64 c.timeout) := by go_simp
  have p9 : ((w1.alloc (.cells #[.int .i64 c.workers, .int .i64 c.levels, .int .i64 c.bits, .int .i64 c.nodes, .int .i64 c.tickets, .int .i64 c.slack, .int .i64 c.first, .int .i64 c.conns, .int .i64 c.timeout, .int .i64 c.base, .int .i64 c.cap, .int .i64 c.jitter, .int .i64 c.attempts, .int .i64 sl, .int .i64 0, .int .i64 0, .int .i64 0, .int .i64 0] 117)).drew).cell? ⟨w1.heap.size, 9, none⟩ = some (.int .i64 c.base) := by go_simp
  have p10 : ((w1.alloc (.cells #[.int .i64 c.workers, .int .i64 c.levels, .int .i64 c.bits, .int .i64 c.nodes, .int .i64 c.tickets, .int .i64 c.slack, .int .i64 c.first, .int .i64 c.conns, .int .i64 c.timeout, .int .i64 c.base, .int .i64 c.cap, .int .i64 c.jitter, .int .i64 c.attempts, .int .i64 sl, .int .i64 0, .int .i64 0, .int .i64 0, .int .i64 0] 117)).drew).cell? ⟨w1.heap.size, 10, none⟩ = some (.int .i64 c.cap) := by go_simp
  have p11 : ((w1.alloc (.cells #[.int .i64 c.workers, .int .i64 c.levels, .int .i64 c.bits, .int .i64 c.nodes, .int .i64 c.tickets, .int .i64 c.slack, .int .i64 c.first, .int .i64 c.conns, .int .i64 c.timeout, .int .i64 c.base, .int .i64 c.cap, .int .i64 c.jitter, .int .i64 c.attempts, .int .i64 sl, .int .i64 0, .int .i64 0, .int .i64 0, .int .i64 0] 117)).drew).cell? ⟨w1.heap.size, 11, none⟩ = some (.int .i64 c.jitter) := by go_simp
  have p12 : ((w1.alloc (.cells #[.int .i64 c.workers, .int .i64 c.levels, .int .i64 c.bits, .int .i64 c.nodes, .int .i64 c.tickets, .int .i64 c.slack, .int .i64 c.first, .int .i64 c.conns, .int .i64 c.timeout, .int .i64 c.base, .int .i64 c.cap, .int .i64 c.jitter, .int .i64 c.attempts, .int .i64 sl, .int .i64 0, .int .i64 0, .int .i64 0, .int .i64 0] 117)).drew).cell? ⟨w1.heap.size, 12, none⟩ = some (.int .i64 c.attempts) := by go_simp
  have p13 : ((w1.alloc (.cells #[.int .i64 c.workers, .int .i64 c.levels, .int .i64 c.bits, .int .i64 c.nodes, .int .i64 c.tickets, .int .i64 c.slack, .int .i64 c.first, .int .i64 c.conns, .int .i64 c.timeout, .int .i64 c.base, .int .i64 c.cap, .int .i64 c.jitter, .int .i64 c.attempts, .int .i64 sl, .int .i64 0, .int .i64 0, .int .i64 0, .int .i64 0] 117)).drew).cell? ⟨w1.heap.size, 13, none⟩ = some (.int .i64 sl) := by go_simp
  have p14 : ((w1.alloc (.cells #[.int .i64 c.workers, .int .i64 c.levels, .int .i64 c.bits, .int .i64 c.nodes, .int .i64 c.tickets, .int .i64 c.slack, .int .i64 c.first, .int .i64 c.conns, .int .i64 c.timeout, .int .i64 c.base, .int .i64 c.cap, .int .i64 c.jitter, .int .i64 c.attempts, .int .i64 sl, .int .i64 0, .int .i64 0, .int .i64 0, .int .i64 0] 117)).drew).cell? ⟨w1.heap.size, 14, none⟩ = some (.int .i64 0) := by go_simp
  have p15 : ((w1.alloc (.cells #[.int .i64 c.workers, .int .i64 c.levels, .int .i64 c.bits, .int .i64 c.nodes, .int .i64 c.tickets, .int .i64 c.slack, .int .i64 c.first, .int .i64 c.conns, .int .i64 c.timeout, .int .i64 c.base, .int .i64 c.cap, .int .i64 c.jitter, .int .i64 c.attempts, .int .i64 sl, .int .i64 0, .int .i64 0, .int .i64 0, .int .i64 0] 117)).drew).cell? ⟨w1.heap.size, 15, none⟩ = some (.int .i64 0) := by go_simp
  have p16 : ((w1.alloc (.cells #[.int .i64 c.workers, .int .i64 c.levels, .int .i64 c.bits, .int .i64 c.nodes, .int .i64 c.tickets, .int .i64 c.slack, .int .i64 c.first, .int .i64 c.conns, .int .i64 c.timeout, .int .i64 c.base, .int .i64 c.cap, .int .i64 c.jitter, .int .i64 c.attempts, .int .i64 sl, .int .i64 0, .int .i64 0, .int .i64 0, .int .i64 0] 117)).drew).cell? ⟨w1.heap.size, 16, none⟩ = some (.int .i64 0) := by go_simp
  have p17 : ((w1.alloc (.cells #[.int .i64 c.workers, .int .i64 c.levels, .int .i64 c.bits, .int .i64 c.nodes, .int .i64 c.tickets, .int .i64 c.slack, .int .i64 c.first, .int .i64 c.conns, .int .i64 c.timeout, .int .i64 c.base, .int .i64 c.cap, .int .i64 c.jitter, .int .i64 c.attempts, .int .i64 sl, .int .i64 0, .int .i64 0, .int .i64 0, .int .i64 0] 117)).drew).cell? ⟨w1.heap.size, 17, none⟩ = some (.int .i64 0) := by go_simp
  have z14 : ((w1.alloc (.cells #[.int .i64 c.workers, .int .i64 c.levels, .int .i64 c.bits, .int .i64 c.nodes, .int .i64 c.tickets, .int .i64 c.slack, .int .i64 c.first, .int .i64 c.conns, .int .i64 c.timeout, .int .i64 c.base, .int .i64 c.cap, .int .i64 c.jitter, .int .i64 c.attempts, .int .i64 sl, .int .i64 0, .int .i64 0, .int .i64 0, .int .i64 0] 117)).drew).frozen? ⟨w1.heap.size, 14, none⟩ = false := by go_simp
  have z15 : ((w1.alloc (.cells #[.int .i64 c.workers, .int .i64 c.levels, .int .i64 c.bits, .int .i64 c.nodes, .int .i64 c.tickets, .int .i64 c.slack, .int .i64 c.first, .int .i64 c.conns, .int .i64 c.timeout, .int .i64 c.base, .int .i64 c.cap, .int .i64 c.jitter, .int .i64 c.attempts, .int .i64 sl, .int .i64 0, .int .i64 0, .int .i64 0, .int .i64 0] 117)).drew).frozen? ⟨w1.heap.size, 15, none⟩ = false := by go_simp
  have z16 : ((w1.alloc (.cells #[.int .i64 c.workers, .int .i64 c.levels, .int .i64 c.bits, .int .i64 c.nodes, .int .i64 c.tickets, .int .i64 c.slack, .int .i64 c.first, .int .i64 c.conns, .int .i64 c.timeout, .int .i64 c.base, .int .i64 c.cap, .int .i64 c.jitter, .int .i64 c.attempts, .int .i64 sl, .int .i64 0, .int .i64 0, .int .i64 0, .int .i64 0] 117)).drew).frozen? ⟨w1.heap.size, 16, none⟩ = false := by go_simp
  have z17 : ((w1.alloc (.cells #[.int .i64 c.workers, .int .i64 c.levels, .int .i64 c.bits, .int .i64 c.nodes, .int .i64 c.tickets, .int .i64 c.slack, .int .i64 c.first, .int .i64 c.conns, .int .i64 c.timeout, .int .i64 c.base, .int .i64 c.cap, .int .i64 c.jitter, .int .i64 c.attempts, .int .i64 sl, .int .i64 0, .int .i64 0, .int .i64 0, .int .i64 0] 117)).drew).frozen? ⟨w1.heap.size, 17, none⟩ = false := by go_simp
  generalize hWW : (w1.alloc (.cells #[.int .i64 c.workers, .int .i64 c.levels, .int .i64 c.bits, .int .i64 c.nodes, .int .i64 c.tickets, .int .i64 c.slack, .int .i64 c.first, .int .i64 c.conns, .int .i64 c.timeout, .int .i64 c.base, .int .i64 c.cap, .int .i64 c.jitter, .int .i64 c.attempts, .int .i64 sl, .int .i64 0, .int .i64 0, .int .i64 0, .int .i64 0] 117)).drew = W at hbW r0 r1 r3 r4 p0 p1 p2 p3 p4 p5 p6 p7 p8 p9 p10 p11 p12 p13 p14 p15 p16 p17 z14 z15 z16 z17 ⊢
  clear hWW q0 q1 q2 q3 q4 q5 q6 q7 q8 q9 q10 q11 q12
  go_still_tail 12, (by kernel_rfl)
  change wpList _ _ _ _ _ (World.drew _)
  go_wp2
  rw [S1.out]
  have hbW1 : Below w.heap.size w ((W.setCell ⟨w1.heap.size, 14, none⟩ (.int .i64 sh)).drew) := (hbW.setCell (by show w.heap.size ≤ w1.heap.size; omega) _).drew
  have r'0 : ((W.setCell ⟨w1.heap.size, 14, none⟩ (.int .i64 sh)).drew).cell? ⟨w.heap.size, 0, none⟩ = some (.int .i64 c.workers) := by go_simp
  have r'1 : ((W.setCell ⟨w1.heap.size, 14, none⟩ (.int .i64 sh)).drew).cell? ⟨w.heap.size, 1, none⟩ = some (.int .i64 c.levels) := by go_simp
  have r'3 : ((W.setCell ⟨w1.heap.size, 14, none⟩ (.int .i64 sh)).drew).cell? ⟨w.heap.size, 3, none⟩ = some (.int .i64 c.nodes) := by go_simp
  have r'4 : ((W.setCell ⟨w1.heap.size, 14, none⟩ (.int .i64 sh)).drew).cell? ⟨w.heap.size, 4, none⟩ = some (.int .i64 c.tickets) := by go_simp
  have p'0 : ((W.setCell ⟨w1.heap.size, 14, none⟩ (.int .i64 sh)).drew).cell? ⟨w1.heap.size, 0, none⟩ = some (.int .i64 c.workers) := by go_simp
  have p'1 : ((W.setCell ⟨w1.heap.size, 14, none⟩ (.int .i64 sh)).drew).cell? ⟨w1.heap.size, 1, none⟩ = some (.int .i64 c.levels) := by go_simp
  have p'2 : ((W.setCell ⟨w1.heap.size, 14, none⟩ (.int .i64 sh)).drew).cell? ⟨w1.heap.size, 2, none⟩ = some (.int .i64 c.bits) := by go_simp
  have p'3 : ((W.setCell ⟨w1.heap.size, 14, none⟩ (.int .i64 sh)).drew).cell? ⟨w1.heap.size, 3, none⟩ = some (.int .i64 c.nodes) := by go_simp
  have p'4 : ((W.setCell ⟨w1.heap.size, 14, none⟩ (.int .i64 sh)).drew).cell? ⟨w1.heap.size, 4, none⟩ = some (.int .i64 c.tickets) := by go_simp
  have p'5 : ((W.setCell ⟨w1.heap.size, 14, none⟩ (.int .i64 sh)).drew).cell? ⟨w1.heap.size, 5, none⟩ = some (.int .i64 c.slack) := by go_simp
  have p'6 : ((W.setCell ⟨w1.heap.size, 14, none⟩ (.int .i64 sh)).drew).cell? ⟨w1.heap.size, 6, none⟩ = some (.int .i64 c.first) := by go_simp
  have p'7 : ((W.setCell ⟨w1.heap.size, 14, none⟩ (.int .i64 sh)).drew).cell? ⟨w1.heap.size, 7, none⟩ = some (.int .i64 c.conns) := by go_simp
  have p'8 : ((W.setCell ⟨w1.heap.size, 14, none⟩ (.int .i64 sh)).drew).cell? ⟨w1.heap.size, 8, none⟩ = some (.int .i64 c.timeout) := by go_simp
  have p'9 : ((W.setCell ⟨w1.heap.size, 14, none⟩ (.int .i64 sh)).drew).cell? ⟨w1.heap.size, 9, none⟩ = some (.int .i64 c.base) := by go_simp
  have p'10 : ((W.setCell ⟨w1.heap.size, 14, none⟩ (.int .i64 sh)).drew).cell? ⟨w1.heap.size, 10, none⟩ = some (.int .i64 c.cap) := by go_simp
  have p'11 : ((W.setCell ⟨w1.heap.size, 14, none⟩ (.int .i64 sh)).drew).cell? ⟨w1.heap.size, 11, none⟩ = some (.int .i64 c.jitter) := by go_simp
  have p'12 : ((W.setCell ⟨w1.heap.size, 14, none⟩ (.int .i64 sh)).drew).cell? ⟨w1.heap.size, 12, none⟩ = some (.int .i64 c.attempts) := by go_simp
  have p'13 : ((W.setCell ⟨w1.heap.size, 14, none⟩ (.int .i64 sh)).drew).cell? ⟨w1.heap.size, 13, none⟩ = some (.int .i64 sl) := by go_simp
  have p'14 : ((W.setCell ⟨w1.heap.size, 14, none⟩ (.int .i64 sh)).drew).cell? ⟨w1.heap.size, 14, none⟩ = some (.int .i64 sh) := by go_simp
  have p'15 : ((W.setCell ⟨w1.heap.size, 14, none⟩ (.int .i64 sh)).drew).cell? ⟨w1.heap.size, 15, none⟩ = some (.int .i64 0) := by go_simp
  have p'16 : ((W.setCell ⟨w1.heap.size, 14, none⟩ (.int .i64 sh)).drew).cell? ⟨w1.heap.size, 16, none⟩ = some (.int .i64 0) := by go_simp
  have p'17 : ((W.setCell ⟨w1.heap.size, 14, none⟩ (.int .i64 sh)).drew).cell? ⟨w1.heap.size, 17, none⟩ = some (.int .i64 0) := by go_simp
  have z'14 : ((W.setCell ⟨w1.heap.size, 14, none⟩ (.int .i64 sh)).drew).frozen? ⟨w1.heap.size, 14, none⟩ = false := by go_simp
  have z'15 : ((W.setCell ⟨w1.heap.size, 14, none⟩ (.int .i64 sh)).drew).frozen? ⟨w1.heap.size, 15, none⟩ = false := by go_simp
  have z'16 : ((W.setCell ⟨w1.heap.size, 14, none⟩ (.int .i64 sh)).drew).frozen? ⟨w1.heap.size, 16, none⟩ = false := by go_simp
  have z'17 : ((W.setCell ⟨w1.heap.size, 14, none⟩ (.int .i64 sh)).drew).frozen? ⟨w1.heap.size, 17, none⟩ = false := by go_simp
  generalize hWW : ((W.setCell ⟨w1.heap.size, 14, none⟩ (.int .i64 sh)).drew) = W1 at hbW1 r'0 r'1 r'3 r'4 p'0 p'1 p'2 p'3 p'4 p'5 p'6 p'7 p'8 p'9 p'10 p'11 p'12 p'13 p'14 p'15 p'16 p'17 z'14 z'15 z'16 z'17 ⊢
  clear hWW r0 r1 r3 r4 p0 p1 p2 p3 p4 p5 p6 p7 p8 p9 p10 p11 p12 p13 p14 p15 p16 p17 z14 z15 z16 z17 hbW
  go_still_tail 11, (by kernel_rfl)
  change wpList _ _ _ _ _ (World.drew _)
  go_wp2
  rw [S2.out]
  have hbW2 : Below w.heap.size w ((W1.setCell ⟨w1.heap.size, 15, none⟩ (.int .i64 nd)).drew) := (hbW1.setCell (by show w.heap.size ≤ w1.heap.size; omega) _).drew
  have r''0 : ((W1.setCell ⟨w1.heap.size, 15, none⟩ (.int .i64 nd)).drew).cell? ⟨w.heap.size, 0, none⟩ = some (.int .i64 c.workers) := by go_simp
  have r''1 : ((W1.setCell ⟨w1.heap.size, 15, none⟩ (.int .i64 nd)).drew).cell? ⟨w.heap.size, 1, none⟩ = some (.int .i64 c.levels) := by go_simp
  have r''3 : ((W1.setCell ⟨w1.heap.size, 15, none⟩ (.int .i64 nd)).drew).cell? ⟨w.heap.size, 3, none⟩ = some (.int .i64 c.nodes) := by go_simp
  have r''4 : ((W1.setCell ⟨w1.heap.size, 15, none⟩ (.int .i64 nd)).drew).cell? ⟨w.heap.size, 4, none⟩ = some (.int .i64 c.tickets) := by go_simp
  have p''0 : ((W1.setCell ⟨w1.heap.size, 15, none⟩ (.int .i64 nd)).drew).cell? ⟨w1.heap.size, 0, none⟩ = some (.int .i64 c.workers) := by go_simp
  have p''1 : ((W1.setCell ⟨w1.heap.size, 15, none⟩ (.int .i64 nd)).drew).cell? ⟨w1.heap.size, 1, none⟩ = some (.int .i64 c.levels) := by go_simp
  have p''2 : ((W1.setCell ⟨w1.heap.size, 15, none⟩ (.int .i64 nd)).drew).cell? ⟨w1.heap.size, 2, none⟩ = some (.int .i64 c.bits) := by go_simp
  have p''3 : ((W1.setCell ⟨w1.heap.size, 15, none⟩ (.int .i64 nd)).drew).cell? ⟨w1.heap.size, 3, none⟩ = some (.int .i64 c.nodes) := by go_simp
  have p''4 : ((W1.setCell ⟨w1.heap.size, 15, none⟩ (.int .i64 nd)).drew).cell? ⟨w1.heap.size, 4, none⟩ = some (.int .i64 c.tickets) := by go_simp
  have p''5 : ((W1.setCell ⟨w1.heap.size, 15, none⟩ (.int .i64 nd)).drew).cell? ⟨w1.heap.size, 5, none⟩ = some (.int .i64 c.slack) := by go_simp
  have p''6 : ((W1.setCell ⟨w1.heap.size, 15, none⟩ (.int .i64 nd)).drew).cell? ⟨w1.heap.size, 6, none⟩ = some (.int .i64 c.first) := by go_simp
  have p''7 : ((W1.setCell ⟨w1.heap.size, 15, none⟩ (.int .i64 nd)).drew).cell? ⟨w1.heap.size, 7, none⟩ = some (.int .i64 c.conns) := by go_simp
  have p''8 : ((W1.setCell ⟨w1.heap.size, 15, none⟩ (.int .i64 nd)).drew).cell? ⟨w1.heap.size, 8, none⟩ = some (.int .i64 c.timeout) := by go_simp
  have p''9 : ((W1.setCell ⟨w1.heap.size, 15, none⟩ (.int .i64 nd)).drew).cell? ⟨w1.heap.size, 9, none⟩ = some (.int .i64 c.base) := by go_simp
  have p''10 : ((W1.setCell ⟨w1.heap.size, 15, none⟩ (.int .i64 nd)).drew).cell? ⟨w1.heap.size, 10, none⟩ = some (.int .i64 c.cap) := by go_simp
  have p''11 : ((W1.setCell ⟨w1.heap.size, 15, none⟩ (.int .i64 nd)).drew).cell? ⟨w1.heap.size, 11, none⟩ = some (.int .i64 c.jitter) := by go_simp
  have p''12 : ((W1.setCell ⟨w1.heap.size, 15, none⟩ (.int .i64 nd)).drew).cell? ⟨w1.heap.size, 12, none⟩ = some (.int .i64 c.attempts) := by go_simp
  have p''13 : ((W1.setCell ⟨w1.heap.size, 15, none⟩ (.int .i64 nd)).drew).cell? ⟨w1.heap.size, 13, none⟩ = some (.int .i64 sl) := by go_simp
  have p''14 : ((W1.setCell ⟨w1.heap.size, 15, none⟩ (.int .i64 nd)).drew).cell? ⟨w1.heap.size, 14, none⟩ = some (.int .i64 sh) := by go_simp
  have p''15 : ((W1.setCell ⟨w1.heap.size, 15, none⟩ (.int .i64 nd)).drew).cell? ⟨w1.heap.size, 15, none⟩ = some (.int .i64 nd) := by go_simp
  have p''16 : ((W1.setCell ⟨w1.heap.size, 15, none⟩ (.int .i64 nd)).drew).cell? ⟨w1.heap.size, 16, none⟩ = some (.int .i64 0) := by go_simp
  have p''17 : ((W1.setCell ⟨w1.heap.size, 15, none⟩ (.int .i64 nd)).drew).cell? ⟨w1.heap.size, 17, none⟩ = some (.int .i64 0) := by go_simp
  have z''14 : ((W1.setCell ⟨w1.heap.size, 15, none⟩ (.int .i64 nd)).drew).frozen? ⟨w1.heap.size, 14, none⟩ = false := by go_simp
  have z''15 : ((W1.setCell ⟨w1.heap.size, 15, none⟩ (.int .i64 nd)).drew).frozen? ⟨w1.heap.size, 15, none⟩ = false := by go_simp
  have z''16 : ((W1.setCell ⟨w1.heap.size, 15, none⟩ (.int .i64 nd)).drew).frozen? ⟨w1.heap.size, 16, none⟩ = false := by go_simp
  have z''17 : ((W1.setCell ⟨w1.heap.size, 15, none⟩ (.int .i64 nd)).drew).frozen? ⟨w1.heap.size, 17, none⟩ = false := by go_simp
  generalize hWW : ((W1.setCell ⟨w1.heap.size, 15, none⟩ (.int .i64 nd)).drew) = W2 at hbW2 r''0 r''1 r''3 r''4 p''0 p''1 p''2 p''3 p''4 p''5 p''6 p''7 p''8 p''9 p''10 p''11 p''12 p''13 p''14 p''15 p''16 p''17 z''14 z''15 z''16 z''17 ⊢
  clear hWW r'0 r'1 r'3 r'4 p'0 p'1 p'2 p'3 p'4 p'5 p'6 p'7 p'8 p'9 p'10 p'11 p'12 p'13 p'14 p'15 p'16 p'17 z'14 z'15 z'16 z'17 hbW1
  go_still_tail 11, (by kernel_rfl)
  change wpList _ _ _ _ _ (World.drew _)
  go_wp2
  rw [V16.out]
  have hbW3 : Below w.heap.size w ((W2.setCell ⟨w1.heap.size, 16, none⟩ (.int .i64 tk)).drew) := (hbW2.setCell (by show w.heap.size ≤ w1.heap.size; omega) _).drew
  have r'''0 : ((W2.setCell ⟨w1.heap.size, 16, none⟩ (.int .i64 tk)).drew).cell? ⟨w.heap.size, 0, none⟩ = some (.int .i64 c.workers) := by go_simp
  have r'''1 : ((W2.setCell ⟨w1.heap.size, 16, none⟩ (.int .i64 tk)).drew).cell? ⟨w.heap.size, 1, none⟩ = some (.int .i64 c.levels) := by go_simp
  have r'''3 : ((W2.setCell ⟨w1.heap.size, 16, none⟩ (.int .i64 tk)).drew).cell? ⟨w.heap.size, 3, none⟩ = some (.int .i64 c.nodes) := by go_simp
  have r'''4 : ((W2.setCell ⟨w1.heap.size, 16, none⟩ (.int .i64 tk)).drew).cell? ⟨w.heap.size, 4, none⟩ = some (.int .i64 c.tickets) := by go_simp
  have p'''0 : ((W2.setCell ⟨w1.heap.size, 16, none⟩ (.int .i64 tk)).drew).cell? ⟨w1.heap.size, 0, none⟩ = some (.int .i64 c.workers) := by go_simp
  have p'''1 : ((W2.setCell ⟨w1.heap.size, 16, none⟩ (.int .i64 tk)).drew).cell? ⟨w1.heap.size, 1, none⟩ = some (.int .i64 c.levels) := by go_simp
  have p'''2 : ((W2.setCell ⟨w1.heap.size, 16, none⟩ (.int .i64 tk)).drew).cell? ⟨w1.heap.size, 2, none⟩ = some (.int .i64 c.bits) := by go_simp
  have p'''3 : ((W2.setCell ⟨w1.heap.size, 16, none⟩ (.int .i64 tk)).drew).cell? ⟨w1.heap.size, 3, none⟩ = some (.int .i64 c.nodes) := by go_simp
  have p'''4 : ((W2.setCell ⟨w1.heap.size, 16, none⟩ (.int .i64 tk)).drew).cell? ⟨w1.heap.size, 4, none⟩ = some (.int .i64 c.tickets) := by go_simp
  have p'''5 : ((W2.setCell ⟨w1.heap.size, 16, none⟩ (.int .i64 tk)).drew).cell? ⟨w1.heap.size, 5, none⟩ = some (.int .i64 c.slack) := by go_simp
  have p'''6 : ((W2.setCell ⟨w1.heap.size, 16, none⟩ (.int .i64 tk)).drew).cell? ⟨w1.heap.size, 6, none⟩ = some (.int .i64 c.first) := by go_simp
  have p'''7 : ((W2.setCell ⟨w1.heap.size, 16, none⟩ (.int .i64 tk)).drew).cell? ⟨w1.heap.size, 7, none⟩ = some (.int .i64 c.conns) := by go_simp
  have p'''8 : ((W2.setCell ⟨w1.heap.size, 16, none⟩ (.int .i64 tk)).drew).cell? ⟨w1.heap.size, 8, none⟩ = some (.int .i64 c.timeout) := by go_simp
  have p'''9 : ((W2.setCell ⟨w1.heap.size, 16, none⟩ (.int .i64 tk)).drew).cell? ⟨w1.heap.size, 9, none⟩ = some (.int .i64 c.base) := by go_simp
  have p'''10 : ((W2.setCell ⟨w1.heap.size, 16, none⟩ (.int .i64 tk)).drew).cell? ⟨w1.heap.size, 10, none⟩ = some (.int .i64 c.cap) := by go_simp
  have p'''11 : ((W2.setCell ⟨w1.heap.size, 16, none⟩ (.int .i64 tk)).drew).cell? ⟨w1.heap.size, 11, none⟩ = some (.int .i64 c.jitter) := by go_simp
  have p'''12 : ((W2.setCell ⟨w1.heap.size, 16, none⟩ (.int .i64 tk)).drew).cell? ⟨w1.heap.size, 12, none⟩ = some (.int .i64 c.attempts) := by go_simp
  have p'''13 : ((W2.setCell ⟨w1.heap.size, 16, none⟩ (.int .i64 tk)).drew).cell? ⟨w1.heap.size, 13, none⟩ = some (.int .i64 sl) := by go_simp
  have p'''14 : ((W2.setCell ⟨w1.heap.size, 16, none⟩ (.int .i64 tk)).drew).cell? ⟨w1.heap.size, 14, none⟩ = some (.int .i64 sh) := by go_simp
  have p'''15 : ((W2.setCell ⟨w1.heap.size, 16, none⟩ (.int .i64 tk)).drew).cell? ⟨w1.heap.size, 15, none⟩ = some (.int .i64 nd) := by go_simp
  have p'''16 : ((W2.setCell ⟨w1.heap.size, 16, none⟩ (.int .i64 tk)).drew).cell? ⟨w1.heap.size, 16, none⟩ = some (.int .i64 tk) := by go_simp
  have p'''17 : ((W2.setCell ⟨w1.heap.size, 16, none⟩ (.int .i64 tk)).drew).cell? ⟨w1.heap.size, 17, none⟩ = some (.int .i64 0) := by go_simp
  have z'''14 : ((W2.setCell ⟨w1.heap.size, 16, none⟩ (.int .i64 tk)).drew).frozen? ⟨w1.heap.size, 14, none⟩ = false := by go_simp
  have z'''15 : ((W2.setCell ⟨w1.heap.size, 16, none⟩ (.int .i64 tk)).drew).frozen? ⟨w1.heap.size, 15, none⟩ = false := by go_simp
  have z'''16 : ((W2.setCell ⟨w1.heap.size, 16, none⟩ (.int .i64 tk)).drew).frozen? ⟨w1.heap.size, 16, none⟩ = false := by go_simp
  have z'''17 : ((W2.setCell ⟨w1.heap.size, 16, none⟩ (.int .i64 tk)).drew).frozen? ⟨w1.heap.size, 17, none⟩ = false := by go_simp
  generalize hWW : ((W2.setCell ⟨w1.heap.size, 16, none⟩ (.int .i64 tk)).drew) = W3 at hbW3 r'''0 r'''1 r'''3 r'''4 p'''0 p'''1 p'''2 p'''3 p'''4 p'''5 p'''6 p'''7 p'''8 p'''9 p'''10 p'''11 p'''12 p'''13 p'''14 p'''15 p'''16 p'''17 z'''14 z'''15 z'''16 z'''17 ⊢
  clear hWW r''0 r''1 r''3 r''4 p''0 p''1 p''2 p''3 p''4 p''5 p''6 p''7 p''8 p''9 p''10 p''11 p''12 p''13 p''14 p''15 p''16 p''17 z''14 z''15 z''16 z''17 hbW2
  go_still_tail 11, (by kernel_rfl)
  change wpList _ _ _ _ _ (World.drew _)
  go_wp2
  rw [V17.out]
  have hbW4 : Below w.heap.size w ((W3.setCell ⟨w1.heap.size, 17, none⟩ (.int .i64 cn)).drew) := (hbW3.setCell (by show w.heap.size ≤ w1.heap.size; omega) _).drew
  have r''''0 : ((W3.setCell ⟨w1.heap.size, 17, none⟩ (.int .i64 cn)).drew).cell? ⟨w.heap.size, 0, none⟩ = some (.int .i64 c.workers) := by go_simp
  have r''''1 : ((W3.setCell ⟨w1.heap.size, 17, none⟩ (.int .i64 cn)).drew).cell? ⟨w.heap.size, 1, none⟩ = some (.int .i64 c.levels) := by go_simp
  have r''''3 : ((W3.setCell ⟨w1.heap.size, 17, none⟩ (.int .i64 cn)).drew).cell? ⟨w.heap.size, 3, none⟩ = some (.int .i64 c.nodes) := by go_simp
  have r''''4 : ((W3.setCell ⟨w1.heap.size, 17, none⟩ (.int .i64 cn)).drew).cell? ⟨w.heap.size, 4, none⟩ = some (.int .i64 c.tickets) := by go_simp
  have p''''0 : ((W3.setCell ⟨w1.heap.size, 17, none⟩ (.int .i64 cn)).drew).cell? ⟨w1.heap.size, 0, none⟩ = some (.int .i64 c.workers) := by go_simp
  have p''''1 : ((W3.setCell ⟨w1.heap.size, 17, none⟩ (.int .i64 cn)).drew).cell? ⟨w1.heap.size, 1, none⟩ = some (.int .i64 c.levels) := by go_simp
  have p''''2 : ((W3.setCell ⟨w1.heap.size, 17, none⟩ (.int .i64 cn)).drew).cell? ⟨w1.heap.size, 2, none⟩ = some (.int .i64 c.bits) := by go_simp
  have p''''3 : ((W3.setCell ⟨w1.heap.size, 17, none⟩ (.int .i64 cn)).drew).cell? ⟨w1.heap.size, 3, none⟩ = some (.int .i64 c.nodes) := by go_simp
  have p''''4 : ((W3.setCell ⟨w1.heap.size, 17, none⟩ (.int .i64 cn)).drew).cell? ⟨w1.heap.size, 4, none⟩ = some (.int .i64 c.tickets) := by go_simp
  have p''''5 : ((W3.setCell ⟨w1.heap.size, 17, none⟩ (.int .i64 cn)).drew).cell? ⟨w1.heap.size, 5, none⟩ = some (.int .i64 c.slack) := by go_simp
  have p''''6 : ((W3.setCell ⟨w1.heap.size, 17, none⟩ (.int .i64 cn)).drew).cell? ⟨w1.heap.size, 6, none⟩ = some (.int .i64 c.first) := by go_simp
  have p''''7 : ((W3.setCell ⟨w1.heap.size, 17, none⟩ (.int .i64 cn)).drew).cell? ⟨w1.heap.size, 7, none⟩ = some (.int .i64 c.conns) := by go_simp
  have p''''8 : ((W3.setCell ⟨w1.heap.size, 17, none⟩ (.int .i64 cn)).drew).cell? ⟨w1.heap.size, 8, none⟩ = some (.int .i64 c.timeout) := by go_simp
  have p''''9 : ((W3.setCell ⟨w1.heap.size, 17, none⟩ (.int .i64 cn)).drew).cell? ⟨w1.heap.size, 9, none⟩ = some (.int .i64 c.base) := by go_simp
  have p''''10 : ((W3.setCell ⟨w1.heap.size, 17, none⟩ (.int .i64 cn)).drew).cell? ⟨w1.heap.size, 10, none⟩ = some (.int .i64 c.cap) := by go_simp
  have p''''11 : ((W3.setCell ⟨w1.heap.size, 17, none⟩ (.int .i64 cn)).drew).cell? ⟨w1.heap.size, 11, none⟩ = some (.int .i64 c.jitter) := by go_simp
  have p''''12 : ((W3.setCell ⟨w1.heap.size, 17, none⟩ (.int .i64 cn)).drew).cell? ⟨w1.heap.size, 12, none⟩ = some (.int .i64 c.attempts) := by go_simp
  have p''''13 : ((W3.setCell ⟨w1.heap.size, 17, none⟩ (.int .i64 cn)).drew).cell? ⟨w1.heap.size, 13, none⟩ = some (.int .i64 sl) := by go_simp
  have p''''14 : ((W3.setCell ⟨w1.heap.size, 17, none⟩ (.int .i64 cn)).drew).cell? ⟨w1.heap.size, 14, none⟩ = some (.int .i64 sh) := by go_simp
  have p''''15 : ((W3.setCell ⟨w1.heap.size, 17, none⟩ (.int .i64 cn)).drew).cell? ⟨w1.heap.size, 15, none⟩ = some (.int .i64 nd) := by go_simp
  have p''''16 : ((W3.setCell ⟨w1.heap.size, 17, none⟩ (.int .i64 cn)).drew).cell? ⟨w1.heap.size, 16, none⟩ = some (.int .i64 tk) := by go_simp
  have p''''17 : ((W3.setCell ⟨w1.heap.size, 17, none⟩ (.int .i64 cn)).drew).cell? ⟨w1.heap.size, 17, none⟩ = some (.int .i64 cn) := by go_simp
  have z''''14 : ((W3.setCell ⟨w1.heap.size, 17, none⟩ (.int .i64 cn)).drew).frozen? ⟨w1.heap.size, 14, none⟩ = false := by go_simp
  have z''''15 : ((W3.setCell ⟨w1.heap.size, 17, none⟩ (.int .i64 cn)).drew).frozen? ⟨w1.heap.size, 15, none⟩ = false := by go_simp
  have z''''16 : ((W3.setCell ⟨w1.heap.size, 17, none⟩ (.int .i64 cn)).drew).frozen? ⟨w1.heap.size, 16, none⟩ = false := by go_simp
  have z''''17 : ((W3.setCell ⟨w1.heap.size, 17, none⟩ (.int .i64 cn)).drew).frozen? ⟨w1.heap.size, 17, none⟩ = false := by go_simp
  generalize hWW : ((W3.setCell ⟨w1.heap.size, 17, none⟩ (.int .i64 cn)).drew) = W4 at hbW4 r''''0 r''''1 r''''3 r''''4 p''''0 p''''1 p''''2 p''''3 p''''4 p''''5 p''''6 p''''7 p''''8 p''''9 p''''10 p''''11 p''''12 p''''13 p''''14 p''''15 p''''16 p''''17 z''''14 z''''15 z''''16 z''''17 ⊢
  clear hWW r'''0 r'''1 r'''3 r'''4 p'''0 p'''1 p'''2 p'''3 p'''4 p'''5 p'''6 p'''7 p'''8 p'''9 p'''10 p'''11 p'''12 p'''13 p'''14 p'''15 p'''16 p'''17 z'''14 z'''15 z'''16 z'''17 hbW3
  go_wp2
  go_ret2
  exact ⟨w1.heap.size, rfl, ⟨p''''0, p''''1, p''''2, p''''3, p''''4, p''''5, p''''6, p''''7, p''''8, p''''9, p''''10, p''''11, p''''12, (hgsl.out ▸ p''''13), (hgsh.out ▸ p''''14), (hgnd.out ▸ p''''15), (hgtk.out ▸ p''''16), (hgcn.out ▸ p''''17)⟩, hbW4, by omega⟩
end Go.Proofs.Ytlbjjooiiikmjaa

