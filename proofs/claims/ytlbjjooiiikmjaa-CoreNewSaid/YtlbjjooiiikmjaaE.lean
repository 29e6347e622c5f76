/- Events: a Tick is right. -/
import Derived.Test.YtlbjjooiiikmjaaW3
import Derived.Laws.EntriesVeiled
import Derived.Deep.RegionHeld3
namespace Go.Proofs.Ytlbjjooiiikmjaa
open Go.RowKit
set_option maxRecDepth 100000
set_option linter.unusedVariables false

set_option maxHeartbeats 1000000 in
theorem tick_fields (T : Int) (w : World) :
    Calls Try.prog 100 #[.agg #[.int .i64 1, .int .i64 0, .int .i64 0, .int .i64 0, .int .i64 0, .int .i64 0, .int .i64 0, .int .i64 T, .int .i64 0, .int .i64 0, .bool false, .int .i64 0]] w fun e w' =>
      e = .returned (.tuple #[.int .i64 4, .bool true]) ∧ Below w.heap.size w w' := by
  go_enter Try.func100, Try.ntmps100
  go_wp2
  go_quiet (fail)
  go_wp2
  go_ret2
  exact ⟨rfl, ((Below.refl _ _).alloc (Nat.le_refl _) _).trans ⟨rfl, rfl, rfl, Nat.le_refl _, fun _ _ => rfl⟩⟩
set_option maxHeartbeats 1000000 in
theorem tick_counted (T : Int) (h : 0 ≤ T) (w : World) :
    Calls Try.prog 101 #[.agg #[.int .i64 1, .int .i64 0, .int .i64 0, .int .i64 0, .int .i64 0, .int .i64 0, .int .i64 0, .int .i64 T, .int .i64 0, .int .i64 0, .bool false, .int .i64 0]] w fun e w' =>
      e = .returned (.bool true) ∧ Below w.heap.size w w' := by
  have hm : ∀ w : World, Sem.run Try.prog (Builtin.min_ #[3, 3, 3, 3] 3 #[.int .i64 0, .int .i64 0, .int .i64 0, .int .i64 0]) w = .ok (.int .i64 0) w := fun w => by kernel_rfl
  go_enter Try.func101, Try.ntmps101
  go_wp2
  go_ret
  exact ⟨by simp, (Below.refl _ _).alloc (Nat.le_refl _) _⟩
set_option maxHeartbeats 1000000 in
theorem tick_bare (T : Int) (w : World) :
    Calls Try.prog 102 #[.agg #[.int .i64 1, .int .i64 0, .int .i64 0, .int .i64 0, .int .i64 0, .int .i64 0, .int .i64 0, .int .i64 T, .int .i64 0, .int .i64 0, .bool false, .int .i64 0], .int .i64 4] w fun e w' =>
      e = .returned (.agg #[.int .i64 1, .int .i64 0, .int .i64 0, .int .i64 0, .int .i64 0, .int .i64 0, .int .i64 0, .int .i64 0, .int .i64 0, .int .i64 0, .bool false, .int .i64 0]) ∧ Below w.heap.size w w' := by
  go_enter Try.func102, Try.ntmps102
  go_wp2
  refine wp_loop_rounds 4 ?_
  rw [rounds_succ]
  go_wp2
  rw [rounds_succ]
  go_wp2
  rw [rounds_succ]
  go_wp2
  rw [rounds_succ]
  go_wp2
  refine bodyPost_ret (v := .agg #[.int .i64 1, .int .i64 0, .int .i64 0, .int .i64 0, .int .i64 0, .int .i64 0, .int .i64 0, .int .i64 0, .int .i64 0, .int .i64 0, .bool false, .int .i64 0]) (by simp [results, Try.results102, go_sem]) rfl ⟨rfl, ?_⟩
  repeat (first | exact Below.refl _ _ | refine Below.setCell ?_ (by simp) _ | refine Below.alloc ?_ (by simp; omega) _ | refine Below.alloc ?_ (by simp) _ | refine Below.drew ?_)
set_option maxHeartbeats 4000000 in
theorem tick_right (T : Int) (h : 0 ≤ T) (w : World) :
    Calls Try.prog 92 #[.agg #[.int .i64 1, .int .i64 0, .int .i64 0, .int .i64 0, .int .i64 0, .int .i64 0, .int .i64 0, .int .i64 T, .int .i64 0, .int .i64 0, .bool false, .int .i64 0]] w fun e w' => e = .returned (.bool true) ∧ Below w.heap.size w w' := by
  have heq : ∀ w : World, Sem.run Try.prog (binOp BinOp.eql 43 (.agg #[.int .i64 1, .int .i64 0, .int .i64 0, .int .i64 0, .int .i64 0, .int .i64 0, .int .i64 0, .int .i64 0, .int .i64 0, .int .i64 0, .bool false, .int .i64 0]) (.agg #[.int .i64 1, .int .i64 0, .int .i64 0, .int .i64 0, .int .i64 0, .int .i64 0, .int .i64 0, .int .i64 0, .int .i64 0, .int .i64 0, .bool false, .int .i64 0])) w = .ok (.bool true) w := fun w => by kernel_rfl
  have e0 : (w.alloc (.cells #[.int .i64 1, .int .i64 0, .int .i64 0, .int .i64 0, .int .i64 0, .int .i64 0, .int .i64 0, .int .i64 T, .int .i64 0, .int .i64 0, .bool false, .int .i64 0] 43)).cell? ⟨w.heap.size, 0, none⟩ = some (.int .i64 1) := by go_simp
  have e1 : (w.alloc (.cells #[.int .i64 1, .int .i64 0, .int .i64 0, .int .i64 0, .int .i64 0, .int .i64 0, .int .i64 0, .int .i64 T, .int .i64 0, .int .i64 0, .bool false, .int .i64 0] 43)).cell? ⟨w.heap.size, 1, none⟩ = some (.int .i64 0) := by go_simp
  have e2 : (w.alloc (.cells #[.int .i64 1, .int .i64 0, .int .i64 0, .int .i64 0, .int .i64 0, .int .i64 0, .int .i64 0, .int .i64 T, .int .i64 0, .int .i64 0, .bool false, .int .i64 0] 43)).cell? ⟨w.heap.size, 2, none⟩ = some (.int .i64 0) := by go_simp
  have e3 : (w.alloc (.cells #[.int .i64 1, .int .i64 0, .int .i64 0, .int .i64 0, .int .i64 0, .int .i64 0, .int .i64 0, .int .i64 T, .int .i64 0, .int .i64 0, .bool false, .int .i64 0] 43)).cell? ⟨w.heap.size, 3, none⟩ = some (.int .i64 0) := by go_simp
  have e4 : (w.alloc (.cells #[.int .i64 1, .int .i64 0, .int .i64 0, .int .i64 0, .int .i64 0, .int .i64 0, .int .i64 0, .int .i64 T, .int .i64 0, .int .i64 0, .bool false, .int .i64 0] 43)).cell? ⟨w.heap.size, 4, none⟩ = some (.int .i64 0) := by go_simp
  have e5 : (w.alloc (.cells #[.int .i64 1, .int .i64 0, .int .i64 0, .int .i64 0, .int .i64 0, .int .i64 0, .int .i64 0, .int .i64 T, .int .i64 0, .int .i64 0, .bool false, .int .i64 0] 43)).cell? ⟨w.heap.size, 5, none⟩ = some (.int .i64 0) := by go_simp
  have e6 : (w.alloc (.cells #[.int .i64 1, .int .i64 0, .int .i64 0, .int .i64 0, .int .i64 0, .int .i64 0, .int .i64 0, .int .i64 T, .int .i64 0, .int .i64 0, .bool false, .int .i64 0] 43)).cell? ⟨w.heap.size, 6, none⟩ = some (.int .i64 0) := by go_simp
  have e7 : (w.alloc (.cells #[.int .i64 1, .int .i64 0, .int .i64 0, .int .i64 0, .int .i64 0, .int .i64 0, .int .i64 0, .int .i64 T, .int .i64 0, .int .i64 0, .bool false, .int .i64 0] 43)).cell? ⟨w.heap.size, 7, none⟩ = some (.int .i64 T) := by go_simp
  have e8 : (w.alloc (.cells #[.int .i64 1, .int .i64 0, .int .i64 0, .int .i64 0, .int .i64 0, .int .i64 0, .int .i64 0, .int .i64 T, .int .i64 0, .int .i64 0, .bool false, .int .i64 0] 43)).cell? ⟨w.heap.size, 8, none⟩ = some (.int .i64 0) := by go_simp
  have e9 : (w.alloc (.cells #[.int .i64 1, .int .i64 0, .int .i64 0, .int .i64 0, .int .i64 0, .int .i64 0, .int .i64 0, .int .i64 T, .int .i64 0, .int .i64 0, .bool false, .int .i64 0] 43)).cell? ⟨w.heap.size, 9, none⟩ = some (.int .i64 0) := by go_simp
  have e10 : (w.alloc (.cells #[.int .i64 1, .int .i64 0, .int .i64 0, .int .i64 0, .int .i64 0, .int .i64 0, .int .i64 0, .int .i64 T, .int .i64 0, .int .i64 0, .bool false, .int .i64 0] 43)).cell? ⟨w.heap.size, 10, none⟩ = some (.bool false) := by go_simp
  have e11 : (w.alloc (.cells #[.int .i64 1, .int .i64 0, .int .i64 0, .int .i64 0, .int .i64 0, .int .i64 0, .int .i64 0, .int .i64 T, .int .i64 0, .int .i64 0, .bool false, .int .i64 0] 43)).cell? ⟨w.heap.size, 11, none⟩ = some (.int .i64 0) := by go_simp
  have hB : Below w.heap.size w (w.alloc (.cells #[.int .i64 1, .int .i64 0, .int .i64 0, .int .i64 0, .int .i64 0, .int .i64 0, .int .i64 0, .int .i64 T, .int .i64 0, .int .i64 0, .bool false, .int .i64 0] 43)) := (Below.refl _ _).alloc (Nat.le_refl _) _
  have HF := Go.Lib.hid (tick_fields T)
  have HC := Go.Lib.hid (tick_counted T h)
  have HBR := Go.Lib.hid (tick_bare T)
  go_enter Try.func92, Try.ntmps92
  go_wp2_with fail
  generalize (w.alloc (.cells #[.int .i64 1, .int .i64 0, .int .i64 0, .int .i64 0, .int .i64 0, .int .i64 0, .int .i64 0, .int .i64 T, .int .i64 0, .int .i64 0, .bool false, .int .i64 0] 43)) = W at *
  generalize hgb : w.heap.size = b at *
  replace hgb := Go.Lib.hid hgb
  refine (HF.out _).mono ?_
  rintro e w1 ⟨rfl, hb⟩
  have e0 := below_cell hb e0
  have e1 := below_cell hb e1
  have e2 := below_cell hb e2
  have e3 := below_cell hb e3
  have e4 := below_cell hb e4
  have e5 := below_cell hb e5
  have e6 := below_cell hb e6
  have e7 := below_cell hb e7
  have e8 := below_cell hb e8
  have e9 := below_cell hb e9
  have e10 := below_cell hb e10
  have e11 := below_cell hb e11
  have hB1 := hB.trans (hb.mono (by rw [← hgb.out]; exact hB.size))
  clear hb hB
  go_wp2_with fail
  refine (HC.out _).mono ?_
  rintro e w2 ⟨rfl, hb⟩
  have e0 := below_cell hb e0
  have e1 := below_cell hb e1
  have e2 := below_cell hb e2
  have e3 := below_cell hb e3
  have e4 := below_cell hb e4
  have e5 := below_cell hb e5
  have e6 := below_cell hb e6
  have e7 := below_cell hb e7
  have e8 := below_cell hb e8
  have e9 := below_cell hb e9
  have e10 := below_cell hb e10
  have e11 := below_cell hb e11
  have hB2 := hB1.trans (hb.mono (by rw [← hgb.out]; exact hB1.size))
  clear hb hB1
  go_wp2
  go_region_held3 (fun w' => w'.cell? ⟨b, 0, none⟩ = some (.int .i64 1) ∧ w'.cell? ⟨b, 1, none⟩ = some (.int .i64 0) ∧ w'.cell? ⟨b, 2, none⟩ = some (.int .i64 0) ∧ w'.cell? ⟨b, 3, none⟩ = some (.int .i64 0) ∧ w'.cell? ⟨b, 4, none⟩ = some (.int .i64 0) ∧ w'.cell? ⟨b, 5, none⟩ = some (.int .i64 0) ∧ w'.cell? ⟨b, 6, none⟩ = some (.int .i64 0) ∧ w'.cell? ⟨b, 7, none⟩ = some (.int .i64 T) ∧ w'.cell? ⟨b, 8, none⟩ = some (.int .i64 0) ∧ w'.cell? ⟨b, 9, none⟩ = some (.int .i64 0) ∧ w'.cell? ⟨b, 10, none⟩ = some (.bool false) ∧ w'.cell? ⟨b, 11, none⟩ = some (.int .i64 0))
    (first | exact ⟨e0, e1, e2, e3, e4, e5, e6, e7, e8, e9, e10, e11⟩)
    (first
    | (go_at_call 102; refine (HBR.out _).mono ?_; rintro e w3 ⟨rfl, hb0⟩; have e0 := below_cell hb0 e0; have e1 := below_cell hb0 e1; have e2 := below_cell hb0 e2; have e3 := below_cell hb0 e3; have e4 := below_cell hb0 e4; have e5 := below_cell hb0 e5; have e6 := below_cell hb0 e6; have e7 := below_cell hb0 e7; have e8 := below_cell hb0 e8; have e9 := below_cell hb0 e9; have e10 := below_cell hb0 e10; have e11 := below_cell hb0 e11; have hB3 : Below b w w3 := (by first | exact hB2.trans (hb0.mono (by rw [← hgb.out]; exact hB2.size)) | exact hB2.drew.trans (hb0.mono (by rw [← hgb.out]; exact hB2.size)))))
  all_goals
    go_wp2
    go_ret
    exact ⟨rfl, hgb.out ▸ (by first | exact hB3 | exact hB3.drew)⟩
end Go.Proofs.Ytlbjjooiiikmjaa

