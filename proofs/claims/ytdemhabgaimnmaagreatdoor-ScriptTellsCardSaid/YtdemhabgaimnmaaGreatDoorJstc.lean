/- Making a plan and an arena. -/
import Derived.Test.YtdemhabgaimnmaaGreatDoorJstb
import Derived.Laws.MakeOwn
import Derived.Deep.RegionWith
namespace Go.Proofs.YtdemhabgaimnmaaGreatDoor
open Go.RowKit
set_option maxRecDepth 100000
set_option linter.unusedVariables false

theorem shard_wrap {c : Cf} (hok : c.Ok) : wrap64 (3 + wrap64 ((c.levels : Int) * (1 + (c.slots : Int)))) = (c.shard : Int) := by
  have hL := hok.hL
  have hsh := hok.shard_le
  have d1 : ((c.shard : Nat) : Int) = 3 + (c.levels : Int) * (1 + (c.slots : Int)) := by unfold Cf.shard; rw [Int.natCast_add, Int.natCast_mul]; rfl
  have h0 : 0 ≤ (c.levels : Int) * (1 + (c.slots : Int)) := Int.mul_nonneg (by omega) (by omega)
  generalize (c.levels : Int) * (1 + (c.slots : Int)) = m at *
  rw [IntWalk.wrap64_in m (by omega), IntWalk.wrap64_in (3 + m) (by omega), d1]
theorem nodesAt_wrap {c : Cf} (hok : c.Ok) : wrap64 (3 + wrap64 ((c.workers : Int) * (c.shard : Int))) = (c.nodesAt : Int) := by
  have hL := hok.hW
  have d1 : ((c.nodesAt : Nat) : Int) = 3 + (c.workers : Int) * (c.shard : Int) := by unfold Cf.nodesAt; rw [Int.natCast_add, Int.natCast_mul]; rfl
  have h0 : 0 ≤ (c.workers : Int) * (c.shard : Int) := Int.mul_nonneg (by omega) (by omega)
  generalize (c.workers : Int) * (c.shard : Int) = m at *
  rw [IntWalk.wrap64_in m (by omega), IntWalk.wrap64_in (3 + m) (by omega), d1]

set_option maxHeartbeats 1000000 in
theorem plan_new (c : Cf) (hok : c.Ok) (w : World) :
    Calls Tryz.prog 62 #[.agg c.vals] w fun e w' => ∃ pb, e = .returned (.tuple #[.pointer (some ⟨pb, 0, none⟩), .int .i64 0]) ∧ PlanAt w' pb c ∧ Below w.heap.size w w' ∧ w.heap.size ≤ pb := by
  have HC := Go.Lib.hid (plan_check c hok)
  have hsl := hok.slots_le
  have hsh := hok.shard_le
  have hnd := hok.nodesAt_le
  have htk := hok.ticketsAt_le
  have hcn := hok.connsAt_le
  have hn2 := hok.n2
  have ht2 := hok.t2
  have hb1 := hok.b1
  have hb2 := hok.b2
  have hl2 := hok.l2
  have hw2 := hok.w2
  have hW := hok.hW
  have hL := hok.hL
  have d3 : c.ticketsAt = c.nodesAt + 4 * c.nodes := rfl
  have d4 : c.connsAt = c.ticketsAt + 3 * c.tickets := rfl
  have d0 : ((c.slots : Nat) : Int) = 2 ^ c.bits := by unfold Cf.slots; push_cast; rfl
  have S1 : Hid (wrap64 (3 + wrap64 ((c.levels : Int) * (1 + (c.slots : Int)))) = (c.shard : Int)) := shard_wrap hok
  have S2 : Hid (wrap64 (3 + wrap64 ((c.workers : Int) * (c.shard : Int))) = (c.nodesAt : Int)) := nodesAt_wrap hok
  generalize hgcn : c.connsAt = cn at *
  replace hgcn := Go.Lib.hid hgcn
  generalize hgtk : c.ticketsAt = tk at *
  replace hgtk := Go.Lib.hid hgtk
  generalize hgnd : c.nodesAt = nd at *
  replace hgnd := Go.Lib.hid hgnd
  generalize hgsh : c.shard = sh at *
  replace hgsh := Go.Lib.hid hgsh
  generalize hgsl : c.slots = sl at *
  replace hgsl := Go.Lib.hid hgsl
  clear hok
  unfold Cf.vals at HC ⊢
  go_enter Tryz.func62, Tryz.ntmps62
  go_wp2_with fail
  refine (HC.out _).mono ?_
  rintro e w1 ⟨rfl, hb⟩
  obtain ⟨hc, _⟩ := bcells hb
  have q0 : w1.cell? ⟨w.heap.size, 0, none⟩ = some (.int .i64 c.workers) := by rw [hc _ _ (by simp)]; go_simp
  have q1 : w1.cell? ⟨w.heap.size, 1, none⟩ = some (.int .i64 c.levels) := by rw [hc _ _ (by simp)]; go_simp
  have q2 : w1.cell? ⟨w.heap.size, 2, none⟩ = some (.int .i64 c.bits) := by rw [hc _ _ (by simp)]; go_simp
  have q3 : w1.cell? ⟨w.heap.size, 3, none⟩ = some (.int .i64 c.nodes) := by rw [hc _ _ (by simp)]; go_simp
  have q4 : w1.cell? ⟨w.heap.size, 4, none⟩ = some (.int .i64 c.tickets) := by rw [hc _ _ (by simp)]; go_simp
  have q5 : w1.cell? ⟨w.heap.size, 5, none⟩ = some (.int .i64 c.slack) := by rw [hc _ _ (by simp)]; go_simp
  have q6 : w1.cell? ⟨w.heap.size, 6, none⟩ = some (.int .i64 c.first) := by rw [hc _ _ (by simp)]; go_simp
  have q7 : w1.cell? ⟨w.heap.size, 7, none⟩ = some (.int .i64 c.conns) := by rw [hc _ _ (by simp)]; go_simp
  have q8 : w1.cell? ⟨w.heap.size, 8, none⟩ = some (.int .i64 c.timeout) := by rw [hc _ _ (by simp)]; go_simp
  have q9 : w1.cell? ⟨w.heap.size, 9, none⟩ = some (.int .i64 c.base) := by rw [hc _ _ (by simp)]; go_simp
  have q10 : w1.cell? ⟨w.heap.size, 10, none⟩ = some (.int .i64 c.cap) := by rw [hc _ _ (by simp)]; go_simp
  have q11 : w1.cell? ⟨w.heap.size, 11, none⟩ = some (.int .i64 c.jitter) := by rw [hc _ _ (by simp)]; go_simp
  have q12 : w1.cell? ⟨w.heap.size, 12, none⟩ = some (.int .i64 c.attempts) := by rw [hc _ _ (by simp)]; go_simp
  have HB := Go.Lib.hid (((Below.refl _ w).alloc (Nat.le_refl _) _).trans (hb.mono (by simp)))
  have hz : w.heap.size < w1.heap.size := by have := hb.size; simp at this; omega
  clear hc hb
  have u0 : IntKind.i64.wrap (2 ^ c.bits) = (sl : Int) := by rw [← d0]; exact IntWalk.i64_in _ (by omega)
  have hz2 : w1.heap.size ≠ w.heap.size := by omega
  have V16 : Hid (((nd : Int) + 4 * (c.nodes : Int)) = tk) := by unfold Hid; omega
  have V17 : Hid (((tk : Int) + 3 * (c.tickets : Int)) = cn) := by unfold Hid; omega
  have D0 := Go.Lib.hid d0
  have D3 := Go.Lib.hid d3
  have D4 := Go.Lib.hid d4
  clear d0 d3 d4 hW hL
  go_wp2
  go_still_tail 5, (by kernel_rfl)
  change wpList _ _ _ _ _ (World.drew _)
  go_wp2
  have hbW : Below w.heap.size w ((w1.alloc (.cells #[.int .i64 c.workers, .int .i64 c.levels, .int .i64 c.bits, .int .i64 c.nodes, .int .i64 c.tickets, .int .i64 c.slack, .int .i64 c.first, .int .i64 c.conns, .int .i64 c.timeout, .int .i64 c.base, .int .i64 c.cap, .int .i64 c.jitter, .int .i64 c.attempts, .int .i64 sl, .int .i64 0, .int .i64 0, .int .i64 0, .int .i64 0] 139)).drew) := (HB.out.trans ((Below.refl _ w1).alloc HB.out.size _)).drew
  have r0 : ((w1.alloc (.cells #[.int .i64 c.workers, .int .i64 c.levels, .int .i64 c.bits, .int .i64 c.nodes, .int .i64 c.tickets, .int .i64 c.slack, .int .i64 c.first, .int .i64 c.conns, .int .i64 c.timeout, .int .i64 c.base, .int .i64 c.cap, .int .i64 c.jitter, .int .i64 c.attempts, .int .i64 sl, .int .i64 0, .int .i64 0, .int .i64 0, .int .i64 0] 139)).drew).cell? ⟨w.heap.size, 0, none⟩ = some (.int .i64 c.workers) := by go_simp
  have r1 : ((w1.alloc (.cells #[.int .i64 c.workers, .int .i64 c.levels, .int .i64 c.bits, .int .i64 c.nodes, .int .i64 c.tickets, .int .i64 c.slack, .int .i64 c.first, .int .i64 c.conns, .int .i64 c.timeout, .int .i64 c.base, .int .i64 c.cap, .int .i64 c.jitter, .int .i64 c.attempts, .int .i64 sl, .int .i64 0, .int .i64 0, .int .i64 0, .int .i64 0] 139)).drew).cell? ⟨w.heap.size, 1, none⟩ = some (.int .i64 c.levels) := by go_simp
  have r3 : ((w1.alloc (.cells #[.int .i64 c.workers, .int .i64 c.levels, .int .i64 c.bits, .int .i64 c.nodes, .int .i64 c.tickets, .int .i64 c.slack, .int .i64 c.first, .int .i64 c.conns, .int .i64 c.timeout, .int .i64 c.base, .int .i64 c.cap, .int .i64 c.jitter, .int .i64 c.attempts, .int .i64 sl, .int .i64 0, .int .i64 0, .int .i64 0, .int .i64 0] 139)).drew).cell? ⟨w.heap.size, 3, none⟩ = some (.int .i64 c.nodes) := by go_simp
  have r4 : ((w1.alloc (.cells #[.int .i64 c.workers, .int .i64 c.levels, .int .i64 c.bits, .int .i64 c.nodes, .int .i64 c.tickets, .int .i64 c.slack, .int .i64 c.first, .int .i64 c.conns, .int .i64 c.timeout, .int .i64 c.base, .int .i64 c.cap, .int .i64 c.jitter, .int .i64 c.attempts, .int .i64 sl, .int .i64 0, .int .i64 0, .int .i64 0, .int .i64 0] 139)).drew).cell? ⟨w.heap.size, 4, none⟩ = some (.int .i64 c.tickets) := by go_simp
  have p0 : ((w1.alloc (.cells #[.int .i64 c.workers, .int .i64 c.levels, .int .i64 c.bits, .int .i64 c.nodes, .int .i64 c.tickets, .int .i64 c.slack, .int .i64 c.first, .int .i64 c.conns, .int .i64 c.timeout, .int .i64 c.base, .int .i64 c.cap, .int .i64 c.jitter, .int .i64 c.attempts, .int .i64 sl, .int .i64 0, .int .i64 0, .int .i64 0, .int .i64 0] 139)).drew).cell? ⟨w1.heap.size, 0, none⟩ = some (.int .i64 c.workers) := by go_simp
  have p1 : ((w1.alloc (.cells #[.int .i64 c.workers, .int .i64 c.levels, .int .i64 c.bits, .int .i64 c.nodes, .int .i64 c.tickets, .int .i64 c.slack, .int .i64 c.first, .int .i64 c.conns, .int .i64 c.timeout, .int .i64 c.base, .int .i64 c.cap, .int .i64 c.jitter, .int .i64 c.attempts, .int .i64 sl, .int .i64 0, .int .i64 0, .int .i64 0, .int .i64 0] 139)).drew).cell? ⟨w1.heap.size, 1, none⟩ = some (.int .i64 c.levels) := by go_simp
  have p2 : ((w1.alloc (.cells #[.int .i64 c.workers, .int .i64 c.levels, .int .i64 c.bits, .int .i64 c.nodes, .int .i64 c.tickets, .int .i64 c.slack, .int .i64 c.first, .int .i64 c.conns, .int .i64 c.timeout, .int .i64 c.base, .int .i64 c.cap, .int .i64 c.jitter, .int .i64 c.attempts, .int .i64 sl, .int .i64 0, .int .i64 0, .int .i64 0, .int .i64 0] 139)).drew).cell? ⟨w1.heap.size, 2, none⟩ = some (.int .i64 c.bits) := by go_simp
  have p3 : ((w1.alloc (.cells #[.int .i64 c.workers, .int .i64 c.levels, .int .i64 c.bits, .int .i64 c.nodes, .int .i64 c.tickets, .int .i64 c.slack, .int .i64 c.first, .int .i64 c.conns, .int .i64 c.timeout, .int .i64 c.base, .int .i64 c.cap, .int .i64 c.jitter, .int .i64 c.attempts, .int .i64 sl, .int .i64 0, .int .i64 0, .int .i64 0, .int .i64 0] 139)).drew).cell? ⟨w1.heap.size, 3, none⟩ = some (.int .i64 c.nodes) := by go_simp
  have p4 : ((w1.alloc (.cells #[.int .i64 c.workers, .int .i64 c.levels, .int .i64 c.bits, .int .i64 c.nodes, .int .i64 c.tickets, .int .i64 c.slack, .int .i64 c.first, .int .i64 c.conns, .int .i64 c.timeout, .int .i64 c.base, .int .i64 c.cap, .int .i64 c.jitter, .int .i64 c.attempts, .int .i64 sl, .int .i64 0, .int .i64 0, .int .i64 0, .int .i64 0] 139)).drew).cell? ⟨w1.heap.size, 4, none⟩ = some (.int .i64 c.tickets) := by go_simp
  have p5 : ((w1.alloc (.cells #[.int .i64 c.workers, .int .i64 c.levels, .int .i64 c.bits, .int .i64 c.nodes, .int .i64 c.tickets, .int .i64 c.slack, .int .i64 c.first, .int .i64 c.conns, .int .i64 c.timeout, .int .i64 c.base, .int .i64 c.cap, .int .i64 c.jitter, .int .i64 c.attempts, .int .i64 sl, .int .i64 0, .int .i64 0, .int .i64 0, .int .i64 0] 139)).drew).cell? ⟨w1.heap.size, 5, none⟩ = some (.int .i64 c.slack) := by go_simp
  have p6 : ((w1.alloc (.cells #[.int .i64 c.workers, .int .i64 c.levels, .int .i64 c.bits, .int .i64 c.nodes, .int .i64 c.tickets, .int .i64 c.slack, .int .i64 c.first, .int .i64 c.conns, .int .i64 c.timeout, .int .i64 c.base, .int .i64 c.cap, .int .i64 c.jitter, .int .i64 c.attempts, .int .i64 sl, .int .i64 0, .int .i64 0, .int .i64 0, .int .i64 0] 139)).drew).cell? ⟨w1.heap.size, 6, none⟩ = some (.int .i64 c.first) := by go_simp
  have p7 : ((w1.alloc (.cells #[.int .i64 c.workers, .int .i64 c.levels, .int .i64 c.bits, .int .i64 c.nodes, .int .i64 c.tickets, .int .i64 c.slack, .int .i64 c.first, .int .i64 c.conns, .int .i64 c.timeout, .int .i64 c.base, .int .i64 c.cap, .int .i64 c.jitter, .int .i64 c.attempts, .int .i64 sl, .int .i64 0, .int .i64 0, .int .i64 0, .int .i64 0] 139)).drew).cell? ⟨w1.heap.size, 7, none⟩ = some (.int .i64 c.conns) := by go_simp
  have p8 : ((w1.alloc (.cells #[.int .i64 c.workers, .int .i64 c.levels, .int .i64 c.bits, .int .i64 c.nodes, .int .i64 c.tickets, .int .i64 c.slack, .int .i64 c.first, .int .i64 c.conns, .int .i64 c.timeout, .int .i64 c.base, .int .i64 c.cap, .int .i64 c.jitter, .int .i64 c.attempts, .int .i64 sl, .int .i64 0, .int .i64 0, .int .i64 0, .int .i64 0] 139)).drew).cell? ⟨w1.heap.size, 8, none⟩ = some (.int .i64 c.timeout) := by go_simp
  have p9 : ((w1.alloc (.cells #[.int .i64 c.workers, .int .i64 c.levels, .int .i64 c.bits, .int .i64 c.nodes, .int .i64 c.tickets, .int .i64 c.slack, .int .i64 c.first, .int .i64 c.conns, .int .i64 c.timeout, .int .i64 c.base, .int .i64 c.cap, .int .i64 c.jitter, .int .i64 c.attempts, .int .i64 sl, .int .i64 0, .int .i64 0, .int .i64 0, .int .i64 0] 139)).drew).cell? ⟨w1.heap.size, 9, none⟩ = some (.int .i64 c.base) := by go_simp
  have p10 : ((w1.alloc (.cells #[.int .i64 c.workers, .int .i64 c.levels, .int .i64 c.bits, .int .i64 c.nodes, .int .i64 c.tickets, .int .i64 c.slack, .int .i64 c.first, .int .i64 c.conns, .int .i64 c.timeout, .int .i64 c.base, .int .i64 c.cap, .int .i64 c.jitter, .int .i64 c.attempts, .int .i64 sl, .int .i64 0, .int .i64 0, .int .i64 0, .int .i64 0] 139)).drew).cell? ⟨w1.heap.size, 10, none⟩ = some (.int .i64 c.cap) := by go_simp
  have p11 : ((w1.alloc (.cells #[.int .i64 c.workers, .int .i64 c.levels, .int .i64 c.bits, .int .i64 c.nodes, .int .i64 c.tickets, .int .i64 c.slack, .int .i64 c.first, .int .i64 c.conns, .int .i64 c.timeout, .int .i64 c.base, .int .i64 c.cap, .int .i64 c.jitter, .int .i64 c.attempts, .int .i64 sl, .int .i64 0, .int .i64 0, .int .i64 0, .int .i64 0] 139)).drew).cell? ⟨w1.heap.size, 11, none⟩ = some (.int .i64 c.jitter) := by go_simp
  have p12 : ((w1.alloc (.cells #[.int .i64 c.workers, .int .i64 c.levels, .int .i64 c.bits, .int .i64 c.nodes, .int .i64 c.tickets, .int .i64 c.slack, .int .i64 c.first, .int .i64 c.conns, .int .i64 c.timeout, .int .i64 c.base, .int .i64 c.cap, .int .i64 c.jitter, .int .i64 c.attempts, .int .i64 sl, .int .i64 0, .int .i64 0, .int .i64 0, .int .i64 0] 139)).drew).cell? ⟨w1.heap.size, 12, none⟩ = some (.int .i64 c.attempts) := by go_simp
  have p13 : ((w1.alloc (.cells #[.int .i64 c.workers, .int .i64 c.levels, .int .i64 c.bits, .int .i64 c.nodes, .int .i64 c.tickets, .int .i64 c.slack, .int .i64 c.first, .int .i64 c.conns, .int .i64 c.timeout, .int .i64 c.base, .int .i64 c.cap, .int .i64 c.jitter, .int .i64 c.attempts, .int .i64 sl, .int .i64 0, .int .i64 0, .int .i64 0, .int .i64 0] 139)).drew).cell? ⟨w1.heap.size, 13, none⟩ = some (.int .i64 sl) := by go_simp
  have p14 : ((w1.alloc (.cells #[.int .i64 c.workers, .int .i64 c.levels, .int .i64 c.bits, .int .i64 c.nodes, .int .i64 c.tickets, .int .i64 c.slack, .int .i64 c.first, .int .i64 c.conns, .int .i64 c.timeout, .int .i64 c.base, .int .i64 c.cap, .int .i64 c.jitter, .int .i64 c.attempts, .int .i64 sl, .int .i64 0, .int .i64 0, .int .i64 0, .int .i64 0] 139)).drew).cell? ⟨w1.heap.size, 14, none⟩ = some (.int .i64 0) := by go_simp
  have p15 : ((w1.alloc (.cells #[.int .i64 c.workers, .int .i64 c.levels, .int .i64 c.bits, .int .i64 c.nodes, .int .i64 c.tickets, .int .i64 c.slack, .int .i64 c.first, .int .i64 c.conns, .int .i64 c.timeout, .int .i64 c.base, .int .i64 c.cap, .int .i64 c.jitter, .int .i64 c.attempts, .int .i64 sl, .int .i64 0, .int .i64 0, .int .i64 0, .int .i64 0] 139)).drew).cell? ⟨w1.heap.size, 15, none⟩ = some (.int .i64 0) := by go_simp
  have p16 : ((w1.alloc (.cells #[.int .i64 c.workers, .int .i64 c.levels, .int .i64 c.bits, .int .i64 c.nodes, .int .i64 c.tickets, .int .i64 c.slack, .int .i64 c.first, .int .i64 c.conns, .int .i64 c.timeout, .int .i64 c.base, .int .i64 c.cap, .int .i64 c.jitter, .int .i64 c.attempts, .int .i64 sl, .int .i64 0, .int .i64 0, .int .i64 0, .int .i64 0] 139)).drew).cell? ⟨w1.heap.size, 16, none⟩ = some (.int .i64 0) := by go_simp
  have p17 : ((w1.alloc (.cells #[.int .i64 c.workers, .int .i64 c.levels, .int .i64 c.bits, .int .i64 c.nodes, .int .i64 c.tickets, .int .i64 c.slack, .int .i64 c.first, .int .i64 c.conns, .int .i64 c.timeout, .int .i64 c.base, .int .i64 c.cap, .int .i64 c.jitter, .int .i64 c.attempts, .int .i64 sl, .int .i64 0, .int .i64 0, .int .i64 0, .int .i64 0] 139)).drew).cell? ⟨w1.heap.size, 17, none⟩ = some (.int .i64 0) := by go_simp
  have z14 : ((w1.alloc (.cells #[.int .i64 c.workers, .int .i64 c.levels, .int .i64 c.bits, .int .i64 c.nodes, .int .i64 c.tickets, .int .i64 c.slack, .int .i64 c.first, .int .i64 c.conns, .int .i64 c.timeout, .int .i64 c.base, .int .i64 c.cap, .int .i64 c.jitter, .int .i64 c.attempts, .int .i64 sl, .int .i64 0, .int .i64 0, .int .i64 0, .int .i64 0] 139)).drew).frozen? ⟨w1.heap.size, 14, none⟩ = false := by go_simp
  have z15 : ((w1.alloc (.cells #[.int .i64 c.workers, .int .i64 c.levels, .int .i64 c.bits, .int .i64 c.nodes, .int .i64 c.tickets, .int .i64 c.slack, .int .i64 c.first, .int .i64 c.conns, .int .i64 c.timeout, .int .i64 c.base, .int .i64 c.cap, .int .i64 c.jitter, .int .i64 c.attempts, .int .i64 sl, .int .i64 0, .int .i64 0, .int .i64 0, .int .i64 0] 139)).drew).frozen? ⟨w1.heap.size, 15, none⟩ = false := by go_simp
  have z16 : ((w1.alloc (.cells #[.int .i64 c.workers, .int .i64 c.levels, .int .i64 c.bits, .int .i64 c.nodes, .int .i64 c.tickets, .int .i64 c.slack, .int .i64 c.first, .int .i64 c.conns, .int .i64 c.timeout, .int .i64 c.base, .int .i64 c.cap, .int .i64 c.jitter, .int .i64 c.attempts, .int .i64 sl, .int .i64 0, .int .i64 0, .int .i64 0, .int .i64 0] 139)).drew).frozen? ⟨w1.heap.size, 16, none⟩ = false := by go_simp
  have z17 : ((w1.alloc (.cells #[.int .i64 c.workers, .int .i64 c.levels, .int .i64 c.bits, .int .i64 c.nodes, .int .i64 c.tickets, .int .i64 c.slack, .int .i64 c.first, .int .i64 c.conns, .int .i64 c.timeout, .int .i64 c.base, .int .i64 c.cap, .int .i64 c.jitter, .int .i64 c.attempts, .int .i64 sl, .int .i64 0, .int .i64 0, .int .i64 0, .int .i64 0] 139)).drew).frozen? ⟨w1.heap.size, 17, none⟩ = false := by go_simp
  generalize hWW : (w1.alloc (.cells #[.int .i64 c.workers, .int .i64 c.levels, .int .i64 c.bits, .int .i64 c.nodes, .int .i64 c.tickets, .int .i64 c.slack, .int .i64 c.first, .int .i64 c.conns, .int .i64 c.timeout, .int .i64 c.base, .int .i64 c.cap, .int .i64 c.jitter, .int .i64 c.attempts, .int .i64 sl, .int .i64 0, .int .i64 0, .int .i64 0, .int .i64 0] 139)).drew = W at hbW r0 r1 r3 r4 p0 p1 p2 p3 p4 p5 p6 p7 p8 p9 p10 p11 p12 p13 p14 p15 p16 p17 z14 z15 z16 z17 ⊢
  clear hWW q0 q1 q2 q3 q4 q5 q6 q7 q8 q9 q10 q11 q12
  go_still_tail 12, (by kernel_rfl)
  change wpList _ _ _ _ _ (World.drew _)
  go_wp2
  rw [S1.out]
  have hbW1 : Below w.heap.size w ((W.setCell ⟨w1.heap.size, 14, none⟩ (.int .i64 sh)).drew) := (hbW.setCell (by show w.heap.size ≤ w1.heap.size; omega) _).drew
  have r'0 : ((W.setCell ⟨w1.heap.size, 14, none⟩ (.int .i64 sh)).drew).cell? ⟨w.heap.size, 0, none⟩ = some (.int .i64 c.workers) := by go_simp
  have r'1 : ((W.setCell ⟨w1.heap.size, 14, none⟩ (.int .i64 sh)).drew).cell? ⟨w.heap.size, 1, none⟩ = some (.int .i64 c.levels) := by go_simp
  have r'3 : ((W.setCell ⟨w1.heap.size, 14, none⟩ (.int .i64 sh)).drew).cell? ⟨w.heap.size, 3, none⟩ = some (.int .i64 c.nodes) := by go_simp
  have r'4 : ((W.setCell ⟨w1.heap.size, 14, none⟩ (.int .i64 sh)).drew).cell? ⟨w.heap.size, 4, none⟩ = some (.int .i64 c.tickets) := by go_simp
  have p'0 : ((W.setCell ⟨w1.heap.size, 14, none⟩ (.int .i64 sh)).drew).cell? ⟨w1.heap.size, 0, none⟩ = some (.int .i64 c.workers) := by go_simp
  have p'1 : ((W.setCell ⟨w1.heap.size, 14, none⟩ (.int .i64 sh)).drew).cell? ⟨w1.heap.size, 1, none⟩ = some (.int .i64 c.levels) := by go_simp
  have p'2 : ((W.setCell ⟨w1.heap.size, 14, none⟩ (.int .i64 sh)).drew).cell? ⟨w1.heap.size, 2, none⟩ = some (.int .i64 c.bits) := by go_simp
  have p'3 : ((W.setCell ⟨w1.heap.size, 14, none⟩ (.int .i64 sh)).drew).cell? ⟨w1.heap.size, 3, none⟩ = some (.int .i64 c.nodes) := by go_simp
  have p'4 : ((W.setCell ⟨w1.heap.size, 14, none⟩ (.int .i64 sh)).drew).cell? ⟨w1.heap.size, 4, none⟩ = some (.int .i64 c.tickets) := by go_simp
  have p'5 : ((W.setCell ⟨w1.heap.size, 14, none⟩ (.int .i64 sh)).drew).cell? ⟨w1.heap.size, 5, none⟩ = some (.int .i64 c.slack) := by go_simp
  have p'6 : ((W.setCell ⟨w1.heap.size, 14, none⟩ (.int .i64 sh)).drew).cell? ⟨w1.heap.size, 6, none⟩ = some (.int .i64 c.first) := by go_simp
  have p'7 : ((W.setCell ⟨w1.heap.size, 14, none⟩ (.int .i64 sh)).drew).cell? ⟨w1.heap.size, 7, none⟩ = some (.int .i64 c.conns) := by go_simp
  have p'8 : ((W.setCell ⟨w1.heap.size, 14, none⟩ (.int .i64 sh)).drew).cell? ⟨w1.heap.size, 8, none⟩ = some (.int .i64 c.timeout) := by go_simp
  have p'9 : ((W.setCell ⟨w1.heap.size, 14, none⟩ (.int .i64 sh)).drew).cell? ⟨w1.heap.size, 9, none⟩ = some (.int .i64 c.base) := by go_simp
  have p'10 : ((W.setCell ⟨w1.heap.size, 14, none⟩ (.int .i64 sh)).drew).cell? ⟨w1.heap.size, 10, none⟩ = some (.int .i64 c.cap) := by go_simp
  have p'11 : ((W.setCell ⟨w1.heap.size, 14, none⟩ (.int .i64 sh)).drew).cell? ⟨w1.heap.size, 11, none⟩ = some (.int .i64 c.jitter) := by go_simp
  have p'12 : ((W.setCell ⟨w1.heap.size, 14, none⟩ (.int .i64 sh)).drew).cell? ⟨w1.heap.size, 12, none⟩ = some (.int .i64 c.attempts) := by go_simp
  have p'13 : ((W.setCell ⟨w1.heap.size, 14, none⟩ (.int .i64 sh)).drew).cell? ⟨w1.heap.size, 13, none⟩ = some (.int .i64 sl) := by go_simp
  have p'14 : ((W.setCell ⟨w1.heap.size, 14, none⟩ (.int .i64 sh)).drew).cell? ⟨w1.heap.size, 14, none⟩ = some (.int .i64 sh) := by go_simp
  have p'15 : ((W.setCell ⟨w1.heap.size, 14, none⟩ (.int .i64 sh)).drew).cell? ⟨w1.heap.size, 15, none⟩ = some (.int .i64 0) := by go_simp
  have p'16 : ((W.setCell ⟨w1.heap.size, 14, none⟩ (.int .i64 sh)).drew).cell? ⟨w1.heap.size, 16, none⟩ = some (.int .i64 0) := by go_simp
  have p'17 : ((W.setCell ⟨w1.heap.size, 14, none⟩ (.int .i64 sh)).drew).cell? ⟨w1.heap.size, 17, none⟩ = some (.int .i64 0) := by go_simp
  have z'14 : ((W.setCell ⟨w1.heap.size, 14, none⟩ (.int .i64 sh)).drew).frozen? ⟨w1.heap.size, 14, none⟩ = false := by go_simp
  have z'15 : ((W.setCell ⟨w1.heap.size, 14, none⟩ (.int .i64 sh)).drew).frozen? ⟨w1.heap.size, 15, none⟩ = false := by go_simp
  have z'16 : ((W.setCell ⟨w1.heap.size, 14, none⟩ (.int .i64 sh)).drew).frozen? ⟨w1.heap.size, 16, none⟩ = false := by go_simp
  have z'17 : ((W.setCell ⟨w1.heap.size, 14, none⟩ (.int .i64 sh)).drew).frozen? ⟨w1.heap.size, 17, none⟩ = false := by go_simp
  generalize hWW : ((W.setCell ⟨w1.heap.size, 14, none⟩ (.int .i64 sh)).drew) = W1 at hbW1 r'0 r'1 r'3 r'4 p'0 p'1 p'2 p'3 p'4 p'5 p'6 p'7 p'8 p'9 p'10 p'11 p'12 p'13 p'14 p'15 p'16 p'17 z'14 z'15 z'16 z'17 ⊢
  clear hWW r0 r1 r3 r4 p0 p1 p2 p3 p4 p5 p6 p7 p8 p9 p10 p11 p12 p13 p14 p15 p16 p17 z14 z15 z16 z17 hbW
  go_still_tail 11, (by kernel_rfl)
  change wpList _ _ _ _ _ (World.drew _)
  go_wp2
  rw [S2.out]
  have hbW2 : Below w.heap.size w ((W1.setCell ⟨w1.heap.size, 15, none⟩ (.int .i64 nd)).drew) := (hbW1.setCell (by show w.heap.size ≤ w1.heap.size; omega) _).drew
  have r''0 : ((W1.setCell ⟨w1.heap.size, 15, none⟩ (.int .i64 nd)).drew).cell? ⟨w.heap.size, 0, none⟩ = some (.int .i64 c.workers) := by go_simp
  have r''1 : ((W1.setCell ⟨w1.heap.size, 15, none⟩ (.int .i64 nd)).drew).cell? ⟨w.heap.size, 1, none⟩ = some (.int .i64 c.levels) := by go_simp
  have r''3 : ((W1.setCell ⟨w1.heap.size, 15, none⟩ (.int .i64 nd)).drew).cell? ⟨w.heap.size, 3, none⟩ = some (.int .i64 c.nodes) := by go_simp
  have r''4 : ((W1.setCell ⟨w1.heap.size, 15, none⟩ (.int .i64 nd)).drew).cell? ⟨w.heap.size, 4, none⟩ = some (.int .i64 c.tickets) := by go_simp
  have p''0 : ((W1.setCell ⟨w1.heap.size, 15, none⟩ (.int .i64 nd)).drew).cell? ⟨w1.heap.size, 0, none⟩ = some (.int .i64 c.workers) := by go_simp
  have p''1 : ((W1.setCell ⟨w1.heap.size, 15, none⟩ (.int .i64 nd)).drew).cell? ⟨w1.heap.size, 1, none⟩ = some (.int .i64 c.levels) := by go_simp
  have p''2 : ((W1.setCell ⟨w1.heap.size, 15, none⟩ (.int .i64 nd)).drew).cell? ⟨w1.heap.size, 2, none⟩ = some (.int .i64 c.bits) := by go_simp
  have p''3 : ((W1.setCell ⟨w1.heap.size, 15, none⟩ (.int .i64 nd)).drew).cell? ⟨w1.heap.size, 3, none⟩ = some (.int .i64 c.nodes) := by go_simp
  have p''4 : ((W1.setCell ⟨w1.heap.size, 15, none⟩ (.int .i64 nd)).drew).cell? ⟨w1.heap.size, 4, none⟩ = some (.int .i64 c.tickets) := by go_simp
  have p''5 : ((W1.setCell ⟨w1.heap.size, 15, none⟩ (.int .i64 nd)).drew).cell? ⟨w1.heap.size, 5, none⟩ = some (.int .i64 c.slack) := by go_simp
  have p''6 : ((W1.setCell ⟨w1.heap.size, 15, none⟩ (.int .i64 nd)).drew).cell? ⟨w1.heap.size, 6, none⟩ = some (.int .i64 c.first) := by go_simp
  have p''7 : ((W1.setCell ⟨w1.heap.size, 15, none⟩ (.int .i64 nd)).drew).cell? ⟨w1.heap.size, 7, none⟩ = some (.int .i64 c.conns) := by go_simp
  have p''8 : ((W1.setCell ⟨w1.heap.size, 15, none⟩ (.int .i64 nd)).drew).cell? ⟨w1.heap.size, 8, none⟩ = some (.int .i64 c.timeout) := by go_simp
  have p''9 : ((W1.setCell ⟨w1.heap.size, 15, none⟩ (.int .i64 nd)).drew).cell? ⟨w1.heap.size, 9, none⟩ = some (.int .i64 c.base) := by go_simp
  have p''10 : ((W1.setCell ⟨w1.heap.size, 15, none⟩ (.int .i64 nd)).drew).cell? ⟨w1.heap.size, 10, none⟩ = some (.int .i64 c.cap) := by go_simp
  have p''11 : ((W1.setCell ⟨w1.heap.size, 15, none⟩ (.int .i64 nd)).drew).cell? ⟨w1.heap.size, 11, none⟩ = some (.int .i64 c.jitter) := by go_simp
  have p''12 : ((W1.setCell ⟨w1.heap.size, 15, none⟩ (.int .i64 nd)).drew).cell? ⟨w1.heap.size, 12, none⟩ = some (.int .i64 c.attempts) := by go_simp
  have p''13 : ((W1.setCell ⟨w1.heap.size, 15, none⟩ (.int .i64 nd)).drew).cell? ⟨w1.heap.size, 13, none⟩ = some (.int .i64 sl) := by go_simp
  have p''14 : ((W1.setCell ⟨w1.heap.size, 15, none⟩ (.int .i64 nd)).drew).cell? ⟨w1.heap.size, 14, none⟩ = some (.int .i64 sh) := by go_simp
  have p''15 : ((W1.setCell ⟨w1.heap.size, 15, none⟩ (.int .i64 nd)).drew).cell? ⟨w1.heap.size, 15, none⟩ = some (.int .i64 nd) := by go_simp
  have p''16 : ((W1.setCell ⟨w1.heap.size, 15, none⟩ (.int .i64 nd)).drew).cell? ⟨w1.heap.size, 16, none⟩ = some (.int .i64 0) := by go_simp
  have p''17 : ((W1.setCell ⟨w1.heap.size, 15, none⟩ (.int .i64 nd)).drew).cell? ⟨w1.heap.size, 17, none⟩ = some (.int .i64 0) := by go_simp
  have z''14 : ((W1.setCell ⟨w1.heap.size, 15, none⟩ (.int .i64 nd)).drew).frozen? ⟨w1.heap.size, 14, none⟩ = false := by go_simp
  have z''15 : ((W1.setCell ⟨w1.heap.size, 15, none⟩ (.int .i64 nd)).drew).frozen? ⟨w1.heap.size, 15, none⟩ = false := by go_simp
  have z''16 : ((W1.setCell ⟨w1.heap.size, 15, none⟩ (.int .i64 nd)).drew).frozen? ⟨w1.heap.size, 16, none⟩ = false := by go_simp
  have z''17 : ((W1.setCell ⟨w1.heap.size, 15, none⟩ (.int .i64 nd)).drew).frozen? ⟨w1.heap.size, 17, none⟩ = false := by go_simp
  generalize hWW : ((W1.setCell ⟨w1.heap.size, 15, none⟩ (.int .i64 nd)).drew) = W2 at hbW2 r''0 r''1 r''3 r''4 p''0 p''1 p''2 p''3 p''4 p''5 p''6 p''7 p''8 p''9 p''10 p''11 p''12 p''13 p''14 p''15 p''16 p''17 z''14 z''15 z''16 z''17 ⊢
  clear hWW r'0 r'1 r'3 r'4 p'0 p'1 p'2 p'3 p'4 p'5 p'6 p'7 p'8 p'9 p'10 p'11 p'12 p'13 p'14 p'15 p'16 p'17 z'14 z'15 z'16 z'17 hbW1
  go_still_tail 11, (by kernel_rfl)
  change wpList _ _ _ _ _ (World.drew _)
  go_wp2
  rw [V16.out]
  have hbW3 : Below w.heap.size w ((W2.setCell ⟨w1.heap.size, 16, none⟩ (.int .i64 tk)).drew) := (hbW2.setCell (by show w.heap.size ≤ w1.heap.size; omega) _).drew
  have r'''0 : ((W2.setCell ⟨w1.heap.size, 16, none⟩ (.int .i64 tk)).drew).cell? ⟨w.heap.size, 0, none⟩ = some (.int .i64 c.workers) := by go_simp
  have r'''1 : ((W2.setCell ⟨w1.heap.size, 16, none⟩ (.int .i64 tk)).drew).cell? ⟨w.heap.size, 1, none⟩ = some (.int .i64 c.levels) := by go_simp
  have r'''3 : ((W2.setCell ⟨w1.heap.size, 16, none⟩ (.int .i64 tk)).drew).cell? ⟨w.heap.size, 3, none⟩ = some (.int .i64 c.nodes) := by go_simp
  have r'''4 : ((W2.setCell ⟨w1.heap.size, 16, none⟩ (.int .i64 tk)).drew).cell? ⟨w.heap.size, 4, none⟩ = some (.int .i64 c.tickets) := by go_simp
  have p'''0 : ((W2.setCell ⟨w1.heap.size, 16, none⟩ (.int .i64 tk)).drew).cell? ⟨w1.heap.size, 0, none⟩ = some (.int .i64 c.workers) := by go_simp
  have p'''1 : ((W2.setCell ⟨w1.heap.size, 16, none⟩ (.int .i64 tk)).drew).cell? ⟨w1.heap.size, 1, none⟩ = some (.int .i64 c.levels) := by go_simp
  have p'''2 : ((W2.setCell ⟨w1.heap.size, 16, none⟩ (.int .i64 tk)).drew).cell? ⟨w1.heap.size, 2, none⟩ = some (.int .i64 c.bits) := by go_simp
  have p'''3 : ((W2.setCell ⟨w1.heap.size, 16, none⟩ (.int .i64 tk)).drew).cell? ⟨w1.heap.size, 3, none⟩ = some (.int .i64 c.nodes) := by go_simp
  have p'''4 : ((W2.setCell ⟨w1.heap.size, 16, none⟩ (.int .i64 tk)).drew).cell? ⟨w1.heap.size, 4, none⟩ = some (.int .i64 c.tickets) := by go_simp
  have p'''5 : ((W2.setCell ⟨w1.heap.size, 16, none⟩ (.int .i64 tk)).drew).cell? ⟨w1.heap.size, 5, none⟩ = some (.int .i64 c.slack) := by go_simp
  have p'''6 : ((W2.setCell ⟨w1.heap.size, 16, none⟩ (.int .i64 tk)).drew).cell? ⟨w1.heap.size, 6, none⟩ = some (.int .i64 c.first) := by go_simp
  have p'''7 : ((W2.setCell ⟨w1.heap.size, 16, none⟩ (.int .i64 tk)).drew).cell? ⟨w1.heap.size, 7, none⟩ = some (.int .i64 c.conns) := by go_simp
  have p'''8 : ((W2.setCell ⟨w1.heap.size, 16, none⟩ (.int .i64 tk)).drew).cell? ⟨w1.heap.size, 8, none⟩ = some (.int .i64 c.timeout) := by go_simp
  have p'''9 : ((W2.setCell ⟨w1.heap.size, 16, none⟩ (.int .i64 tk)).drew).cell? ⟨w1.heap.size, 9, none⟩ = some (.int .i64 c.base) := by go_simp
  have p'''10 : ((W2.setCell ⟨w1.heap.size, 16, none⟩ (.int .i64 tk)).drew).cell? ⟨w1.heap.size, 10, none⟩ = some (.int .i64 c.cap) := by go_simp
  have p'''11 : ((W2.setCell ⟨w1.heap.size, 16, none⟩ (.int .i64 tk)).drew).cell? ⟨w1.heap.size, 11, none⟩ = some (.int .i64 c.jitter) := by go_simp
  have p'''12 : ((W2.setCell ⟨w1.heap.size, 16, none⟩ (.int .i64 tk)).drew).cell? ⟨w1.heap.size, 12, none⟩ = some (.int .i64 c.attempts) := by go_simp
  have p'''13 : ((W2.setCell ⟨w1.heap.size, 16, none⟩ (.int .i64 tk)).drew).cell? ⟨w1.heap.size, 13, none⟩ = some (.int .i64 sl) := by go_simp
  have p'''14 : ((W2.setCell ⟨w1.heap.size, 16, none⟩ (.int .i64 tk)).drew).cell? ⟨w1.heap.size, 14, none⟩ = some (.int .i64 sh) := by go_simp
  have p'''15 : ((W2.setCell ⟨w1.heap.size, 16, none⟩ (.int .i64 tk)).drew).cell? ⟨w1.heap.size, 15, none⟩ = some (.int .i64 nd) := by go_simp
  have p'''16 : ((W2.setCell ⟨w1.heap.size, 16, none⟩ (.int .i64 tk)).drew).cell? ⟨w1.heap.size, 16, none⟩ = some (.int .i64 tk) := by go_simp
  have p'''17 : ((W2.setCell ⟨w1.heap.size, 16, none⟩ (.int .i64 tk)).drew).cell? ⟨w1.heap.size, 17, none⟩ = some (.int .i64 0) := by go_simp
  have z'''14 : ((W2.setCell ⟨w1.heap.size, 16, none⟩ (.int .i64 tk)).drew).frozen? ⟨w1.heap.size, 14, none⟩ = false := by go_simp
  have z'''15 : ((W2.setCell ⟨w1.heap.size, 16, none⟩ (.int .i64 tk)).drew).frozen? ⟨w1.heap.size, 15, none⟩ = false := by go_simp
  have z'''16 : ((W2.setCell ⟨w1.heap.size, 16, none⟩ (.int .i64 tk)).drew).frozen? ⟨w1.heap.size, 16, none⟩ = false := by go_simp
  have z'''17 : ((W2.setCell ⟨w1.heap.size, 16, none⟩ (.int .i64 tk)).drew).frozen? ⟨w1.heap.size, 17, none⟩ = false := by go_simp
  generalize hWW : ((W2.setCell ⟨w1.heap.size, 16, none⟩ (.int .i64 tk)).drew) = W3 at hbW3 r'''0 r'''1 r'''3 r'''4 p'''0 p'''1 p'''2 p'''3 p'''4 p'''5 p'''6 p'''7 p'''8 p'''9 p'''10 p'''11 p'''12 p'''13 p'''14 p'''15 p'''16 p'''17 z'''14 z'''15 z'''16 z'''17 ⊢
  clear hWW r''0 r''1 r''3 r''4 p''0 p''1 p''2 p''3 p''4 p''5 p''6 p''7 p''8 p''9 p''10 p''11 p''12 p''13 p''14 p''15 p''16 p''17 z''14 z''15 z''16 z''17 hbW2
  go_still_tail 11, (by kernel_rfl)
  change wpList _ _ _ _ _ (World.drew _)
  go_wp2
  rw [V17.out]
  have hbW4 : Below w.heap.size w ((W3.setCell ⟨w1.heap.size, 17, none⟩ (.int .i64 cn)).drew) := (hbW3.setCell (by show w.heap.size ≤ w1.heap.size; omega) _).drew
  have r''''0 : ((W3.setCell ⟨w1.heap.size, 17, none⟩ (.int .i64 cn)).drew).cell? ⟨w.heap.size, 0, none⟩ = some (.int .i64 c.workers) := by go_simp
  have r''''1 : ((W3.setCell ⟨w1.heap.size, 17, none⟩ (.int .i64 cn)).drew).cell? ⟨w.heap.size, 1, none⟩ = some (.int .i64 c.levels) := by go_simp
  have r''''3 : ((W3.setCell ⟨w1.heap.size, 17, none⟩ (.int .i64 cn)).drew).cell? ⟨w.heap.size, 3, none⟩ = some (.int .i64 c.nodes) := by go_simp
  have r''''4 : ((W3.setCell ⟨w1.heap.size, 17, none⟩ (.int .i64 cn)).drew).cell? ⟨w.heap.size, 4, none⟩ = some (.int .i64 c.tickets) := by go_simp
  have p''''0 : ((W3.setCell ⟨w1.heap.size, 17, none⟩ (.int .i64 cn)).drew).cell? ⟨w1.heap.size, 0, none⟩ = some (.int .i64 c.workers) := by go_simp
  have p''''1 : ((W3.setCell ⟨w1.heap.size, 17, none⟩ (.int .i64 cn)).drew).cell? ⟨w1.heap.size, 1, none⟩ = some (.int .i64 c.levels) := by go_simp
  have p''''2 : ((W3.setCell ⟨w1.heap.size, 17, none⟩ (.int .i64 cn)).drew).cell? ⟨w1.heap.size, 2, none⟩ = some (.int .i64 c.bits) := by go_simp
  have p''''3 : ((W3.setCell ⟨w1.heap.size, 17, none⟩ (.int .i64 cn)).drew).cell? ⟨w1.heap.size, 3, none⟩ = some (.int .i64 c.nodes) := by go_simp
  have p''''4 : ((W3.setCell ⟨w1.heap.size, 17, none⟩ (.int .i64 cn)).drew).cell? ⟨w1.heap.size, 4, none⟩ = some (.int .i64 c.tickets) := by go_simp
  have p''''5 : ((W3.setCell ⟨w1.heap.size, 17, none⟩ (.int .i64 cn)).drew).cell? ⟨w1.heap.size, 5, none⟩ = some (.int .i64 c.slack) := by go_simp
  have p''''6 : ((W3.setCell ⟨w1.heap.size, 17, none⟩ (.int .i64 cn)).drew).cell? ⟨w1.heap.size, 6, none⟩ = some (.int .i64 c.first) := by go_simp
  have p''''7 : ((W3.setCell ⟨w1.heap.size, 17, none⟩ (.int .i64 cn)).drew).cell? ⟨w1.heap.size, 7, none⟩ = some (.int .i64 c.conns) := by go_simp
  have p''''8 : ((W3.setCell ⟨w1.heap.size, 17, none⟩ (.int .i64 cn)).drew).cell? ⟨w1.heap.size, 8, none⟩ = some (.int .i64 c.timeout) := by go_simp
  have p''''9 : ((W3.setCell ⟨w1.heap.size, 17, none⟩ (.int .i64 cn)).drew).cell? ⟨w1.heap.size, 9, none⟩ = some (.int .i64 c.base) := by go_simp
  have p''''10 : ((W3.setCell ⟨w1.heap.size, 17, none⟩ (.int .i64 cn)).drew).cell? ⟨w1.heap.size, 10, none⟩ = some (.int .i64 c.cap) := by go_simp
  have p''''11 : ((W3.setCell ⟨w1.heap.size, 17, none⟩ (.int .i64 cn)).drew).cell? ⟨w1.heap.size, 11, none⟩ = some (.int .i64 c.jitter) := by go_simp
  have p''''12 : ((W3.setCell ⟨w1.heap.size, 17, none⟩ (.int .i64 cn)).drew).cell? ⟨w1.heap.size, 12, none⟩ = some (.int .i64 c.attempts) := by go_simp
  have p''''13 : ((W3.setCell ⟨w1.heap.size, 17, none⟩ (.int .i64 cn)).drew).cell? ⟨w1.heap.size, 13, none⟩ = some (.int .i64 sl) := by go_simp
  have p''''14 : ((W3.setCell ⟨w1.heap.size, 17, none⟩ (.int .i64 cn)).drew).cell? ⟨w1.heap.size, 14, none⟩ = some (.int .i64 sh) := by go_simp
  have p''''15 : ((W3.setCell ⟨w1.heap.size, 17, none⟩ (.int .i64 cn)).drew).cell? ⟨w1.heap.size, 15, none⟩ = some (.int .i64 nd) := by go_simp
  have p''''16 : ((W3.setCell ⟨w1.heap.size, 17, none⟩ (.int .i64 cn)).drew).cell? ⟨w1.heap.size, 16, none⟩ = some (.int .i64 tk) := by go_simp
  have p''''17 : ((W3.setCell ⟨w1.heap.size, 17, none⟩ (.int .i64 cn)).drew).cell? ⟨w1.heap.size, 17, none⟩ = some (.int .i64 cn) := by go_simp
  have z''''14 : ((W3.setCell ⟨w1.heap.size, 17, none⟩ (.int .i64 cn)).drew).frozen? ⟨w1.heap.size, 14, none⟩ = false := by go_simp
  have z''''15 : ((W3.setCell ⟨w1.heap.size, 17, none⟩ (.int .i64 cn)).drew).frozen? ⟨w1.heap.size, 15, none⟩ = false := by go_simp
  have z''''16 : ((W3.setCell ⟨w1.heap.size, 17, none⟩ (.int .i64 cn)).drew).frozen? ⟨w1.heap.size, 16, none⟩ = false := by go_simp
  have z''''17 : ((W3.setCell ⟨w1.heap.size, 17, none⟩ (.int .i64 cn)).drew).frozen? ⟨w1.heap.size, 17, none⟩ = false := by go_simp
  generalize hWW : ((W3.setCell ⟨w1.heap.size, 17, none⟩ (.int .i64 cn)).drew) = W4 at hbW4 r''''0 r''''1 r''''3 r''''4 p''''0 p''''1 p''''2 p''''3 p''''4 p''''5 p''''6 p''''7 p''''8 p''''9 p''''10 p''''11 p''''12 p''''13 p''''14 p''''15 p''''16 p''''17 z''''14 z''''15 z''''16 z''''17 ⊢
  clear hWW r'''0 r'''1 r'''3 r'''4 p'''0 p'''1 p'''2 p'''3 p'''4 p'''5 p'''6 p'''7 p'''8 p'''9 p'''10 p'''11 p'''12 p'''13 p'''14 p'''15 p'''16 p'''17 z'''14 z'''15 z'''16 z'''17 hbW3
  go_wp2
  go_ret2
  exact ⟨w1.heap.size, rfl, ⟨p''''0, p''''1, p''''2, p''''3, p''''4, p''''5, p''''6, p''''7, p''''8, p''''9, p''''10, p''''11, p''''12, (hgsl.out ▸ p''''13), (hgsh.out ▸ p''''14), (hgnd.out ▸ p''''15), (hgtk.out ▸ p''''16), (hgcn.out ▸ p''''17)⟩, hbW4, by omega⟩
end Go.Proofs.YtdemhabgaimnmaaGreatDoor
/- The cells: cell.New, cell.Of; a head as a word. -/
namespace Go.Proofs.YtdemhabgaimnmaaGreatDoor
open Go.RowKit
set_option maxRecDepth 100000
set_option linter.unusedVariables false

theorem madeCells_one (z : Value) (n i : Nat) (h : i < n) : (madeCells #[z] n)[i]? = some z := by
  unfold madeCells
  simp [h, Nat.mod_one]

theorem cell_made {w : World} {z : Value} {n : Nat} {e : TypeId} {i : Nat} (h : i < n) : (w.alloc (.cells (madeCells #[z] n) e)).cell? ⟨w.heap.size, i, none⟩ = some z := by
  rw [World.cell?_alloc_new]
  exact madeCells_one z n i h
theorem frozen_made {w : World} {z : Value} {n : Nat} {e : TypeId} {i : Nat} : (w.alloc (.cells (madeCells #[z] n) e)).frozen? ⟨w.heap.size, i, none⟩ = false := by
  exact World.frozen?_alloc_new _ _ _ _

set_option maxHeartbeats 400000 in
theorem make_cells (n : Nat) (h1 : n ≤ 1048576) (w : World) :
    (Instr.makeSlice 175 (.int .i64 n) (.int .i64 n)).run Tryz.prog w = .ok (.slice (some ⟨w.heap.size, 0, none⟩) n n) (w.alloc (.cells (madeCells #[.int .u64 0] n) 174)) := by
  have hz : (Tryz.prog.info? 174).map (fun i => (i.zero, i.size, i.bytes)) = some (some (.agg #[.int .u64 0]), 1, 8) := by kernel_rfl
  cases hi : Tryz.prog.info? 174 with
  | none => rw [hi] at hz; cases hz
  | some i => ?_
  rw [hi] at hz
  simp at hz
  obtain ⟨z1, z2, z3⟩ := hz
  have := run_make (P := Tryz.prog) w 175 174 i _ (by kernel_rfl) hi z1 .i64 .i64 n n (by omega) (by omega) (by rw [z3]; omega) (by omega)
  rw [this]
  simp [z2, Value.cells]

set_option maxHeartbeats 400000 in
theorem cell_new (n : Nat) (h0 : 1 ≤ n) (h1 : n ≤ 1048576) (w : World) :
    Calls Tryz.prog 100 #[.int .i64 n] w fun e w' => e = .returned (.tuple #[.pointer (some ⟨w.heap.size + 1, 0, none⟩), .int .i64 0]) ∧
      w' = (w.alloc (.cells (madeCells #[.int .u64 0] n) 174)).alloc (.cells #[.slice (some ⟨w.heap.size, 0, none⟩) n n, .int .i64 0] 179) := by
  have hmk := make_cells n h1
  go_enter Tryz.func100, Tryz.ntmps100
  go_wp2
  go_ret2
  exact ⟨rfl, rfl⟩
/-- What the round finds: the cells ahead of k are laid. -/
structure OfAt (w : World) (n : Nat) (m : Nat → Nat) (k : Nat) (W : World) : Prop where
  bl : Below w.heap.size w W
  sz : W.heap.size = w.heap.size + 2
  a0 : W.cell? ⟨w.heap.size + 1, 0, none⟩ = some (.slice (some ⟨w.heap.size, 0, none⟩) n n)
  a1 : W.cell? ⟨w.heap.size + 1, 1, none⟩ = some (.int .i64 0)
  af : W.frozen? ⟨w.heap.size + 1, 1, none⟩ = false
  c0 : ∀ i, i < n → W.cell? ⟨w.heap.size, i, none⟩ = some (.int .u64 (if i < k then m i else 0 : Nat))
  cf : ∀ i, i < n → W.frozen? ⟨w.heap.size, i, none⟩ = false
theorem OfAt.start (w : World) (n : Nat) (m : Nat → Nat) : OfAt w n m 0 ((w.alloc (.cells (madeCells #[.int .u64 0] n) 174)).alloc (.cells #[.slice (some ⟨w.heap.size, 0, none⟩) n n, .int .i64 0] 179)) := by
  refine ⟨((Below.refl _ _).alloc (Nat.le_refl _) _).alloc (by simp) _, by simp, ?_, ?_, ?_, ?_, ?_⟩
  · simp
  · simp
  · simp
  · intro i hi
    have h := cell_made (w := w) (z := .int .u64 0) (e := 174) hi
    simp only [Nat.not_lt_zero, if_false]
    exact below_cell ((Below.refl _ _).alloc (Nat.le_refl _) _) h
  · intro i hi
    have h := cell_made (w := w) (z := .int .u64 0) (e := 174) hi
    exact (((Below.refl _ (w.alloc (.cells (madeCells #[.int .u64 0] n) 174))).alloc (Nat.le_refl _) _).frozen (cell_lt h)).trans frozen_made
theorem OfAt.step {w W : World} {n : Nat} {m : Nat → Nat} {k : Nat} (h : OfAt w n m k W) (hk : k < n) : OfAt w n m (k + 1) (W.setCell ⟨w.heap.size, k, none⟩ (.int .u64 (m k))) := by
  refine ⟨h.bl.setCell (Nat.le_refl _) _, by rw [← h.sz]; simp, ?_, ?_, ?_, ?_, ?_⟩
  · exact (World.cell?_setCell_other _ _ _ _ (by simp)).trans h.a0
  · exact (World.cell?_setCell_other _ _ _ _ (by simp)).trans h.a1
  · rw [World.frozen?_setCell]; exact h.af
  · intro i hi
    by_cases e : i = k
    · subst e
      refine (World.cell?_setCell_same _ _ _ (h.c0 i hi)).trans ?_
      simp
    · refine (World.cell?_setCell_other _ _ _ _ (by first | (simp; done) | (intro x; simp at x; omega))).trans ?_
      rw [h.c0 i hi]
      have : (i < k + 1) = (i < k) := by apply propext; omega
      simp only [this]
  · intro i hi; rw [World.frozen?_setCell]; exact h.cf i hi

set_option maxHeartbeats 1000000 in
theorem cell_of (n b cap : Nat) (m : Nat → Nat) (h0 : 1 ≤ n) (h1 : n ≤ 1048576) (w : World) (hc : ∀ i, i < n → w.cell? ⟨b, i, none⟩ = some (.int .u64 (m i))) :
    Calls Tryz.prog 82 #[.slice (some ⟨b, 0, none⟩) n cap] w fun e w' => e = .returned (.tuple #[.pointer (some ⟨w.heap.size + 1, 0, none⟩), .int .i64 0]) ∧ OfAt w n m n w' := by
  have HB := Go.Lib.hid (hc 0 h0)
  have HC := Go.Lib.hid hc
  clear hc
  go_enter Tryz.func82, Tryz.ntmps82
  go_wp2_with fail
  refine (cell_new n h0 h1 w).mono ?_
  rintro e w' ⟨rfl, rfl⟩
  have HS := OfAt.start w n m
  generalize ((w.alloc (.cells (madeCells #[.int .u64 0] n) 174)).alloc (.cells #[.slice (some ⟨w.heap.size, 0, none⟩) n n, .int .i64 0] 179)) = W0 at *
  go_wp2
  go_loopw [6, 7, 19] (fun _ _ i wr => ∃ k : Nat, k ≤ n ∧ i = .int .i64 k ∧ OfAt w n m k wr) (fun _ _ i _ => n - (intOf i).toNat)
  case atStart => exact ⟨0, Nat.zero_le _, rfl, HS⟩
  case round =>
    obtain ⟨k, hk, rfl, hat⟩ := hrel
    have HAT := Go.Lib.hid hat
    by_cases hlt : k < n
    · have e1 := bcell hat.bl (HC.out k hlt) (cell_lt (HC.out k hlt))
      have e2 := hat.c0 k hlt
      have e3 := hat.cf k hlt
      have e4 := hat.a0
      clear hat HS
      go_wp2_with (go_at_call 101; refine (u64_store _ _ _ _ _ e2 e3).mono ?_; rintro e w' ⟨rfl, rfl⟩)
      go_roundw
      case rel => exact ⟨k + 1, by omega, by go_num, HAT.out.step hlt⟩
      case measure => simp [intOf]; omega
    · clear hat HS
      go_wp2
      go_ret2
      have hk' : k = n := by omega
      subst hk'
      exact ⟨rfl, HAT.out⟩
set_option maxHeartbeats 1000000 in
theorem word_Head (count index : Int) (w : World) (h0 : count < 9223372036854775808) (h1 : -1 ≤ index) (h2 : index < 4294967295) :
    Calls Tryz.prog 75 #[.agg #[.int .i64 count, .int .i64 index]] w fun e w' => e = .returned (.tuple #[.int .u64 (packed [32, 32] [count, index + 1]).1, .int .i64 (packed [32, 32] [count, index + 1]).2]) ∧ Below w.heap.size w w' := by
  go_enter Tryz.func75, Tryz.ntmps75
  go_wp2_with fail
  refine (pack_any [32, 32] [count, index + 1] _ _ _ _ _ rfl (by decide) (by decide) (by decide) (by intro j hj; match j, hj with | 0, _ => exact h0 | 1, _ => exact (by show index + 1 < _; omega)) (by intro j hj; match j, hj with | 0, _ => go_simp | 1, _ => go_simp) (by intro j hj; match j, hj with | 0, _ => go_simp | 1, _ => go_simp)).mono ?_
  rintro e w' ⟨rfl, rfl⟩
  go_wp2
  go_ret2
  refine ⟨rfl, ?_⟩
  exact (((Below.refl _ _).alloc (Nat.le_refl _) _).alloc (by simp) _).alloc (by simp; omega) _
end Go.Proofs.YtdemhabgaimnmaaGreatDoor
/- What all cells hold at first: plan.Fresh. -/
namespace Go.Proofs.YtdemhabgaimnmaaGreatDoor
open Go.RowKit
set_option maxRecDepth 100000
set_option linter.unusedVariables false

def upd (m : Nat → Nat) (i v : Nat) : Nat → Nat := fun j => if j = i then v else m j
/-- A chain through the places g 0, g 1 ..: each tells the next one's number. -/
def chainM (g : Nat → Nat) (m : Nat → Nat) : Nat → Nat → Nat
  | 0 => m
  | k + 1 => upd (chainM g m k) (g k) (k + 2)

/-- A row of words that a box names. -/
structure RowAt (B : Nat) (w0 : World) (bx r n : Nat) (m : Nat → Nat) (W : World) : Prop where
  bl : Below B w0 W
  hB : B ≤ W.heap.size
  hr : B ≤ r
  ne : bx ≠ r
  b0 : W.cell? ⟨bx, 0, none⟩ = some (.slice (some ⟨r, 0, none⟩) n n)
  c0 : ∀ i, i < n → W.cell? ⟨r, i, none⟩ = some (.int .u64 (m i : Nat))
  cf : ∀ i, i < n → W.frozen? ⟨r, i, none⟩ = false
theorem RowAt.below {B : Nat} {w0 W W' : World} {bx r n : Nat} {m : Nat → Nat} (h : RowAt B w0 bx r n m W) (hb : Below W.heap.size W W') : RowAt B w0 bx r n m W' :=
  ⟨h.bl.trans (hb.mono h.hB), Nat.le_trans h.hB hb.size, h.hr, h.ne, below_cell hb h.b0, fun i hi => below_cell hb (h.c0 i hi), fun i hi => (hb.frozen (cell_lt (h.c0 i hi))).trans (h.cf i hi)⟩
theorem RowAt.set {B : Nat} {w0 W : World} {bx r n : Nat} {m : Nat → Nat} (h : RowAt B w0 bx r n m W) {k : Nat} (hk : k < n) (v : Nat) : RowAt B w0 bx r n (upd m k v) (W.setCell ⟨r, k, none⟩ (.int .u64 (v : Nat))) := by
  refine ⟨h.bl.setCell h.hr _, by simp; exact h.hB, h.hr, h.ne, ?_, ?_, ?_⟩
  · exact (World.cell?_setCell_other _ _ _ _ (by have := h.ne; intro x; cases x; exact this rfl)).trans h.b0
  · intro i hi
    unfold upd
    by_cases e : i = k
    · subst e
      refine (World.cell?_setCell_same _ _ _ (h.c0 i hi)).trans ?_
      simp
    · refine (World.cell?_setCell_other _ _ _ _ (by intro x; cases x; exact e rfl)).trans ?_
      rw [h.c0 i hi, if_neg e]
  · intro i hi; rw [World.frozen?_setCell]; exact h.cf i hi

set_option maxHeartbeats 400000 in
theorem plan_Size {c : Cf} (hok : c.Ok) (p : Nat) (w : World) (h : PlanAt w p c) :
    Calls Tryz.prog 73 #[.pointer (some ⟨p, 0, none⟩)] w (Qt (.int .i64 c.size) w) := by
  have h17 := h.c17
  have h7 := h.c7
  have hs := hok.connsAt_le
  have hc2 := hok.c2
  have e : IntKind.i64.wrap ((c.connsAt : Int) + c.conns) = (c.size : Nat) := by rw [IntWalk.i64_in _ (by omega)]; unfold Cf.size; omega
  have HS := Go.Lib.hid e
  clear h e
  unfold Cf.size at *
  generalize c.connsAt = cn at *
  go_enter Tryz.func73, Tryz.ntmps73
  go_wp2
  go_quiet (fail)
  go_wp2
  go_ret
  refine ⟨?_, _, rfl⟩
  first
    | rw [HS.out]
    | rfl
    | (simp; omega)

set_option maxHeartbeats 4000000 in
theorem fresh1 (c : Cf) (p bx r n : Nat) (g : Nat → Nat) (m : Nat → Nat) (h many f : Nat) (hf : ∀ (args : Array Value) (w : World), (callFunc f args).run Tryz.prog w = .ok (.enter f args) w)
    (hlink : ∀ (i : Nat) (w : World), i < many → PlanAt w p c → Calls Tryz.prog f #[.pointer (some ⟨p, 0, none⟩), .int .i64 i] w (Qt (.int .i64 (g i)) w))
    (hg : ∀ i, i < many → g i < n) (hh : h < n) (h1 : 1 ≤ many) (h2 : many ≤ 8192) (hn : n ≤ 1048576) (B : Nat) (w0 w : World) (hp : PlanAt w p c) (hpr : p ≠ r) (hr : RowAt B w0 bx r n m w) :
    Calls Tryz.prog 74 #[.int .i64 h, .int .i64 many, .func (.func f) #[.pointer (some ⟨p, 0, none⟩)] #[], .pointer (some ⟨bx, 0, none⟩)] w fun e w' => e = .returned (.tuple #[]) ∧ RowAt B w0 bx r n (chainM g (upd m h 1) (many - 1)) w' ∧ PlanAt w' p c := by
  have e0 := hr.b0
  have e1 := hr.c0 h hh
  have e2 := hr.cf h hh
  have l0 := cell_lt e0
  have l1 := cell_lt e1
  have HR := Go.Lib.hid hr
  have HP := Go.Lib.hid hp
  have HL := Go.Lib.hid hlink
  have HG := Go.Lib.hid hg
  have HW := Go.Lib.hid (word_Head 0 0)
  clear hr hp hlink hg
  go_enter Tryz.func74, Tryz.ntmps74
  go_wp2
  go_region_with (go_at_call 75; refine (HW.out _ (by omega) (by omega) (by omega)).mono ?_; rintro e w' ⟨rfl, hb0⟩; have hb : Below w.heap.size w w' := (by first | exact hb0 | exact (Below.refl _ _).drew.trans hb0 | exact (Below.refl _ _).drew.drew.trans hb0); clear hb0; have f0 := below_cell hb e0; have f1 := below_cell hb e1; have f2 := (hb.frozen l1).trans e2; have f3 := cell_lt f1)
  all_goals
    have hrow : RowAt B w0 bx r n (upd m h 1) (w'.setCell ⟨r, h, none⟩ (.int .u64 (packed [32, 32] [0, 1]).1)) := (HR.out.below hb).set hh 1
    have hpl : PlanAt (w'.setCell ⟨r, h, none⟩ (.int .u64 (packed [32, 32] [0, 1]).1)) p c := (HP.out.mono (hb.block p (cell_lt HP.out.c0))).mono (Below.heap_setCell _ _ _ _ hpr)
    generalize (w'.setCell ⟨r, h, none⟩ (.int .u64 (packed [32, 32] [0, 1]).1)) = W1 at *
    clear hb f0 f1 f2 f3 e0 e1 e2 l0 l1
    have HROW := Go.Lib.hid hrow
    have HPL := Go.Lib.hid hpl
    clear hrow hpl
    go_wp2
    go_loopw [7] (fun i wr => ∃ j : Nat, j + 1 ≤ many ∧ i = .int .i64 ((j : Int) + 1) ∧ RowAt B w0 bx r n (chainM g (upd m h 1) j) wr ∧ PlanAt wr p c) (fun i _ => many - (intOf i).toNat)
    case atStart => exact ⟨0, h1, rfl, HROW.out, HPL.out⟩
    case round =>
      obtain ⟨j, hj, rfl, hrow, hpl⟩ := hrel
      have HROW' := Go.Lib.hid hrow
      have HPL' := Go.Lib.hid hpl
      by_cases hlt : j + 1 < many
      · have hgj := HG.out j (by omega)
        have e0 := hrow.b0
        have e1 := hrow.c0 _ hgj
        have e2 := hrow.cf _ hgj
        have l0 := cell_lt e0
        have l1 := cell_lt e1
        have s1 : IntKind.i64.wrap (j : Int) = j := IntWalk.i64_in _ (by omega)
        have s3 : IntKind.u64.wrap ((j : Int) + 2) = (j : Int) + 2 := by simp [IntKind.wrap, IntKind.bits, IntKind.signed]; omega
        have s2 : IntKind.i64.wrap ((j : Int) + 1 + 1) = (j : Int) + 2 := by rw [IntWalk.i64_in _ (by omega)]; omega
        clear hrow hpl
        go_wp2
        go_region_with ((first | refine (HL.out j wr (by omega) HPL'.out).mono ?_ | refine (HL.out j wr.drew (by omega) (HPL'.out.mono rfl)).mono ?_); rintro e w' hq; obtain ⟨rfl, hb0⟩ := hq.below; have hb : Below wr.heap.size wr w' := (by first | exact hb0 | exact (Below.refl _ _).drew.trans hb0 | exact (Below.refl _ _).drew.drew.trans hb0); clear hq hb0; have f0 := below_cell hb e0; have f1 := below_cell hb e1; have f2 := (hb.frozen l1).trans e2; have f3 := cell_lt f1)
        all_goals
          have hrow := (HROW'.out.below hb).set hgj (j + 2)
          have hpl : PlanAt (w'.setCell ⟨r, g j, none⟩ (.int .u64 (j + 2 : Nat))) p c := (HPL'.out.mono (hb.block p (cell_lt HPL'.out.c0))).mono (Below.heap_setCell _ _ _ _ hpr)
          have HROW2 := Go.Lib.hid hrow
          have HPL2 := Go.Lib.hid hpl
          clear hrow hpl
          go_wp2
          go_roundw
          case rel => exact ⟨j + 1, by omega, by go_num, HROW2.out, HPL2.out⟩
          case measure => simp [intOf]; omega
      · clear hrow hpl
        have s4 : ((j : Int) + 1 < many) = False := by simp; omega
        go_wp2
        have hj' : many - 1 = j := by omega
        go_end0
        exact ⟨rfl, hj' ▸ HROW'.out, HPL'.out⟩
end Go.Proofs.YtdemhabgaimnmaaGreatDoor
