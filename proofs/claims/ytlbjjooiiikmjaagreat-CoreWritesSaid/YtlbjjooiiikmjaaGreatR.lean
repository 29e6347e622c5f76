/- Rounding, and the configuration. -/
import Derived.Test.YtlbjjooiiikmjaaGreatW3
namespace Go.Proofs.YtlbjjooiiikmjaaGreat
open Go.RowKit
set_option maxRecDepth 100000
set_option linter.unusedVariables false

theorem clockI_bd (t : Int) : 0 ≤ clockI t ∧ clockI t ≤ 1073741823 := by unfold clockI; omega

set_option maxHeartbeats 400000 in
theorem clock_any (t : Int) (w : World) :
    Calls Tryz.prog 84 #[.int .i64 t] w fun e w' => e = .returned (.int .i64 (clockI t)) ∧ w' = w := by
  unfold clockI
  by_cases h0 : t < 0
  · have e : min (max t 0) 1073741823 = 0 := by omega
    rw [e]
    go_enter Tryz.func84, Tryz.ntmps84
    go_wp2
    go_ret
    exact ⟨by simp <;> omega, rfl⟩
  · by_cases h1 : t ≤ 1073741823
    · have e : min (max t 0) 1073741823 = t := by omega
      rw [e]
      go_enter Tryz.func84, Tryz.ntmps84
      go_wp2
      go_ret
      exact ⟨by simp <;> omega, rfl⟩
    · have e : min (max t 0) 1073741823 = 1073741823 := by omega
      rw [e]
      go_enter Tryz.func84, Tryz.ntmps84
      go_wp2
      go_ret
      exact ⟨by simp <;> omega, rfl⟩

set_option maxHeartbeats 400000 in
theorem up_any (d s : Int) (w : World) :
    Calls Tryz.prog 51 #[.int .i64 d, .int .i64 s] w (Qt (.int .i64 (upI d s)) w) := by
  have h1 := clockI_bd d
  have h2 := clockI_bd s
  have hu : upI d s = (clockI d + (clockI s + 1) - 1) / (clockI s + 1) * (clockI s + 1) := rfl
  rw [hu]
  generalize hcd : clockI d = x at *
  generalize hcs : clockI s = y at *
  have h3 : 0 ≤ (x + (y + 1) - 1) / (y + 1) * (y + 1) := Int.mul_nonneg (Int.ediv_nonneg (by omega) (by omega)) (by omega)
  have h4 : (x + (y + 1) - 1) / (y + 1) * (y + 1) ≤ x + (y + 1) - 1 := Int.ediv_mul_le _ (by omega)
  have HX := Go.Lib.hid (hcd ▸ clock_any d : ∀ w, Calls Tryz.prog 84 #[.int .i64 d] w fun e w' => e = .returned (.int .i64 x) ∧ w' = w)
  have HY := Go.Lib.hid (hcs ▸ clock_any s : ∀ w, Calls Tryz.prog 84 #[.int .i64 s] w fun e w' => e = .returned (.int .i64 y) ∧ w' = w)
  clear hcd hcs
  obtain ⟨a1, a2⟩ := h1
  obtain ⟨b1, b2⟩ := h2
  go_enter Tryz.func51, Tryz.ntmps51
  go_wp2_with fail
  refine (HY.out _).mono ?_
  rintro e w' ⟨rfl, rfl⟩
  go_wp2_with fail
  refine (HX.out _).mono ?_
  rintro e w' ⟨rfl, rfl⟩
  go_wp2
  go_ret
  exact ⟨by simp, 0, rfl⟩

def Cf.vals (c : Cf) : Array Value := #[.int .i64 c.workers, .int .i64 c.levels, .int .i64 c.bits, .int .i64 c.nodes, .int .i64 c.tickets, .int .i64 c.slack, .int .i64 c.first, .int .i64 c.conns, .int .i64 c.timeout, .int .i64 c.base, .int .i64 c.cap, .int .i64 c.jitter, .int .i64 c.attempts]

set_option maxHeartbeats 1000000 in
theorem plan_config (c : Cf) (p : Nat) (w : World) (h : PlanAt w p c) :
    Calls Tryz.prog 85 #[.pointer (some ⟨p, 0, none⟩)] w fun e w' => e = .returned (.agg c.vals) ∧ Below w.heap.size w w' := by
  have hp := cell_lt h.c0
  obtain ⟨c0, c1, c2, c3, c4, c5, c6, c7, c8, c9, c10, c11, c12, c13, c14, c15, c16, c17⟩ := h
  go_enter Tryz.func85, Tryz.ntmps85
  go_wp2
  refine bodyPost_ret (v := .agg c.vals) (by simp [results, Tryz.results85, go_sem, Cf.vals]) rfl ⟨rfl, (Below.refl _ _).alloc (Nat.le_refl _) _⟩

set_option maxHeartbeats 1000000 in
theorem core_config {E : G} {L : Lab} {S : St} {w : World} (hg : Good E L S w) :
    Calls Tryz.prog 52 #[.pointer (some ⟨E.k, 0, none⟩)] w fun e w' => e = .returned (.agg E.cf.vals) ∧ Below w.heap.size w w' := by
  have k0 := hg.k0
  have q0 := cell_lt k0
  have hpl := hg.pl
  have HPL := Go.Lib.hid (hpl.mono (Below.heap_alloc w (.cells #[.int .i64 0, .int .i64 0, .int .i64 0, .int .i64 0, .int .i64 0, .int .i64 0, .int .i64 0, .int .i64 0, .int .i64 0, .int .i64 0, .int .i64 0, .int .i64 0, .int .i64 0] 66) E.p (cell_lt hpl.c0)))
  clear hpl
  go_enter Tryz.func52, Tryz.ntmps52
  go_wp2_with fail
  refine (plan_config E.cf E.p _ HPL.out).mono ?_
  rintro e w' ⟨rfl, hb⟩
  obtain ⟨hc, hf⟩ := bcells hb
  have hz : w.heap.size < w'.heap.size := by have := hb.size; simp at this; omega
  have HB := Go.Lib.hid (((Below.refl _ w).alloc (Nat.le_refl _) _).trans (hb.mono (by simp)))
  clear hb
  unfold Cf.vals
  go_wp2
  refine bodyPost_ret (v := .agg E.cf.vals) (by simp [results, Tryz.results52, go_sem, Cf.vals, hc]) rfl ⟨by unfold Cf.vals; rfl, ?_⟩
  exact (((((((((((((HB.out.setCell (by simp) _).setCell (by simp) _).setCell (by simp) _).setCell (by simp) _).setCell (by simp) _).setCell (by simp) _).setCell (by simp) _).setCell (by simp) _).setCell (by simp) _).setCell (by simp) _).setCell (by simp) _).setCell (by simp) _).setCell (by simp) _)
end Go.Proofs.YtlbjjooiiikmjaaGreat

