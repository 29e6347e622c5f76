/- Rounding, and the configuration. -/
import Derived.Test.YtlbjjooiiikmjaaW3
namespace Go.Proofs.Ytlbjjooiiikmjaa
open Go.RowKit
set_option maxRecDepth 100000
set_option linter.unusedVariables false

theorem clockI_bd (t : Int) : 0 ≤ clockI t ∧ clockI t ≤ 1073741823 := by unfold clockI; omega



def Cf.vals (c : Cf) : Array Value := #[.int .i64 c.workers, .int .i64 c.levels, .int .i64 c.bits, .int .i64 c.nodes, .int .i64 c.tickets, .int .i64 c.slack, .int .i64 c.first, .int .i64 c.conns, .int .i64 c.timeout, .int .i64 c.base, .int .i64 c.cap, .int .i64 c.jitter, .int .i64 c.attempts]

set_option maxHeartbeats 1000000 in
theorem plan_config (c : Cf) (p : Nat) (w : World) (h : PlanAt w p c) :
    Calls Try.prog 44 #[.pointer (some ⟨p, 0, none⟩)] w fun e w' => e = .returned (.agg c.vals) ∧ Below w.heap.size w w' := by
  have hp := cell_lt h.c0
  obtain ⟨c0, c1, c2, c3, c4, c5, c6, c7, c8, c9, c10, c11, c12, c13, c14, c15, c16, c17⟩ := h
  go_enter Try.func44, Try.ntmps44
  go_wp2
  refine bodyPost_ret (v := .agg c.vals) (by simp [results, Try.results44, go_sem, Cf.vals]) rfl ⟨rfl, (Below.refl _ _).alloc (Nat.le_refl _) _⟩

set_option maxHeartbeats 1000000 in
theorem core_config {E : G} {L : Lab} {S : St} {w : World} (hg : Good E L S w) :
    Calls Try.prog 19 #[.pointer (some ⟨E.k, 0, none⟩)] w fun e w' => e = .returned (.agg E.cf.vals) ∧ Below w.heap.size w w' := by
  have k0 := hg.k0
  have q0 := cell_lt k0
  have hpl := hg.pl
  have HPL := Go.Lib.hid (hpl.mono (Below.heap_alloc w (.cells #[.int .i64 0, .int .i64 0, .int .i64 0, .int .i64 0, .int .i64 0, .int .i64 0, .int .i64 0, .int .i64 0, .int .i64 0, .int .i64 0, .int .i64 0, .int .i64 0, .int .i64 0] 48) E.p (cell_lt hpl.c0)))
  clear hpl
  go_enter Try.func19, Try.ntmps19
  go_wp2_with fail
  refine (plan_config E.cf E.p _ HPL.out).mono ?_
  rintro e w' ⟨rfl, hb⟩
  obtain ⟨hc, hf⟩ := bcells hb
  have hz : w.heap.size < w'.heap.size := by have := hb.size; simp at this; omega
  have HB := Go.Lib.hid (((Below.refl _ w).alloc (Nat.le_refl _) _).trans (hb.mono (by simp)))
  clear hb
  unfold Cf.vals
  go_wp2
  refine bodyPost_ret (v := .agg E.cf.vals) (by simp [results, Try.results19, go_sem, Cf.vals, hc]) rfl ⟨by unfold Cf.vals; rfl, ?_⟩
  exact (((((((((((((HB.out.setCell (by simp) _).setCell (by simp) _).setCell (by simp) _).setCell (by simp) _).setCell (by simp) _).setCell (by simp) _).setCell (by simp) _).setCell (by simp) _).setCell (by simp) _).setCell (by simp) _).setCell (by simp) _).setCell (by simp) _).setCell (by simp) _)
end Go.Proofs.Ytlbjjooiiikmjaa

