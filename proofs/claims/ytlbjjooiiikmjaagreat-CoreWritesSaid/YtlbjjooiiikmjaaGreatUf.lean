/- When a deadline is due, as the document has it. -/
import Derived.Test.YtlbjjooiiikmjaaGreatUe
namespace Go.Proofs.YtlbjjooiiikmjaaGreat
open Go.RowKit
set_option maxRecDepth 100000
set_option linter.unusedVariables false

theorem up_law (x m : Int) (hm : 0 < m) : (x + m - 1) / m * m = if x % m = 0 then x else x + m - x % m := by
  have h1 : m * (x / m) + x % m = x := Int.mul_ediv_add_emod x m
  have h2 := Int.emod_nonneg x (show m ≠ 0 by omega)
  have h3 := Int.emod_lt_of_pos x hm
  generalize x / m = q at *
  generalize x % m = r at *
  split
  · rename_i h
    subst h
    have e : x + m - 1 = (m - 1) + m * q := by omega
    rw [e, Int.add_mul_ediv_left _ _ (by omega), Int.ediv_eq_zero_of_lt (by omega) (by omega), Int.zero_add, Int.mul_comm]
    omega
  · have e : x + m - 1 = (r - 1) + m * (q + 1) := by rw [Int.mul_add]; omega
    rw [e, Int.add_mul_ediv_left _ _ (by omega), Int.ediv_eq_zero_of_lt (by omega) (by omega), Int.zero_add, Int.mul_comm, Int.mul_add]
    omega

set_option maxHeartbeats 400000 in
theorem ref_Clock (t : Int) (w : World) :
    Calls Tryz.prog 88 #[.int .i64 t] w fun e w' => e = .returned (.int .i64 (clockI t)) ∧ w' = w := by
  unfold clockI
  by_cases h0 : t < 0
  · have e : min (max t 0) 1073741823 = 0 := by omega
    rw [e]
    have q0 : decide (t < 0) = true := by simp; omega
    go_enter Tryz.func88, Tryz.ntmps88
    go_wp2
    go_ret
    exact ⟨rfl, rfl⟩
  · by_cases h1 : t ≤ 1073741823
    · have e : min (max t 0) 1073741823 = t := by omega
      rw [e]
      have q0 : decide (t < 0) = false := by simp; omega
      have q1 : decide (1073741823 < t) = false := by simp; omega
      go_enter Tryz.func88, Tryz.ntmps88
      go_wp2
      go_ret
      exact ⟨rfl, rfl⟩
    · have e : min (max t 0) 1073741823 = 1073741823 := by omega
      rw [e]
      have q0 : decide (t < 0) = false := by simp; omega
      have q1 : decide (1073741823 < t) = true := by simp; omega
      go_enter Tryz.func88, Tryz.ntmps88
      go_wp2
      go_ret
      exact ⟨rfl, rfl⟩
set_option maxHeartbeats 400000 in
theorem ref_Up (d s : Int) (w : World) :
    Calls Tryz.prog 56 #[.int .i64 d, .int .i64 s] w fun e w' => e = .returned (.int .i64 (upI d s)) ∧ w' = w := by
  have h1 := clockI_bd d
  have h2 := clockI_bd s
  have HX := Go.Lib.hid (ref_Clock d)
  have HY := Go.Lib.hid (ref_Clock s)
  have hu : upI d s = if clockI d % (clockI s + 1) = 0 then clockI d else clockI d + (clockI s + 1) - clockI d % (clockI s + 1) := up_law _ _ (by omega)
  rw [hu]
  clear hu
  generalize clockI d = x at *
  generalize clockI s = y at *
  have h3 := Int.emod_nonneg x (show y + 1 ≠ 0 by omega)
  have h4 := Int.emod_lt_of_pos x (show 0 < y + 1 by omega)
  have ht : x.tmod (y + 1) = x % (y + 1) := Int.tmod_eq_emod_of_nonneg h1.1
  have hw1 : IntKind.i64.wrap (y + 1) = y + 1 := IntWalk.i64_in _ (by omega)
  have hw2 : IntKind.i64.wrap (x % (y + 1)) = x % (y + 1) := IntWalk.i64_in _ (by omega)
  have hw3 : IntKind.i64.wrap (x + (y + 1)) = x + (y + 1) := IntWalk.i64_in _ (by omega)
  have hw4 : IntKind.i64.wrap (x + (y + 1) - x % (y + 1)) = x + (y + 1) - x % (y + 1) := IntWalk.i64_in _ (by omega)
  have hne : ((y + 1 : Int) == 0) = false := by simp; omega
  obtain ⟨a1, a2⟩ := h1
  obtain ⟨b1, b2⟩ := h2
  by_cases h0 : x % (y + 1) = 0
  · rw [if_pos h0]
    have q0 : decide (x % (y + 1) = 0) = true := by simp; omega
    go_enter Tryz.func56, Tryz.ntmps56
    go_wp2_with fail
    refine (HX.out _).mono ?_
    rintro e w' ⟨rfl, rfl⟩
    go_wp2_with fail
    refine (HY.out _).mono ?_
    rintro e w' ⟨rfl, rfl⟩
    go_wp2
    go_ret
    exact ⟨rfl, rfl⟩
  · rw [if_neg h0]
    have q0 : decide (x % (y + 1) = 0) = false := by simp; omega
    go_enter Tryz.func56, Tryz.ntmps56
    go_wp2_with fail
    refine (HX.out _).mono ?_
    rintro e w' ⟨rfl, rfl⟩
    go_wp2_with fail
    refine (HY.out _).mono ?_
    rintro e w' ⟨rfl, rfl⟩
    go_wp2
    go_ret
    exact ⟨rfl, rfl⟩
set_option maxHeartbeats 400000 in
theorem ref_Due (x : Nat → Int) (d : Int) (w : World) :
    Calls Tryz.prog 25 #[.agg #[.int .i64 (x 0), .int .i64 (x 1), .int .i64 (x 2), .int .i64 (x 3), .int .i64 (x 4), .int .i64 (x 5), .int .i64 (x 6), .int .i64 (x 7), .int .i64 (x 8), .int .i64 (x 9), .int .i64 (x 10), .int .i64 (x 11), .int .i64 (x 12)], .int .i64 d] w fun e w' => e = .returned (.int .i64 (upI d (x 5))) ∧ Below w.heap.size w w' := by
  have HU := Go.Lib.hid (ref_Up d (x 5))
  generalize upI d (x 5) = u at *
  go_enter Tryz.func25, Tryz.ntmps25
  go_wp2_with fail
  refine (HU.out _).mono ?_
  rintro e w' ⟨rfl, rfl⟩
  go_wp2
  go_ret
  exact ⟨rfl, (Below.refl _ _).alloc (Nat.le_refl _) _⟩
end Go.Proofs.YtlbjjooiiikmjaaGreat

