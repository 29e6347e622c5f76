/- The Points of Cancels, Rearms and Migrates are right. -/
import Derived.Test.YtgemjjpmoejgdaaGreatHrp
namespace Go.Proofs.YtgemjjpmoejgdaaGreat
open Go.RowKit
set_option maxRecDepth 100000
set_option linter.unusedVariables false

set_option maxHeartbeats 2000000 in
theorem cancelY_fields (wk hn hg : Int) (hw : 0 ≤ wk) (w : World) :
    Calls Tryz.prog 259 #[.agg #[.int .i64 3, .int .i64 wk, .int .i64 2, .int .i64 hn, .int .i64 hg, .int .i64 0, .int .i64 0, .int .i64 0, .int .i64 0, .int .i64 0, .bool true, .int .i64 0]] w fun e w' => e = .returned (.tuple #[.int .i64 33, .bool true]) ∧ Below w.heap.size w w' := by
  go_enter Tryz.func259, Tryz.ntmps259
  go_wp2
  go_ret2
  exact ⟨rfl, ((Below.refl _ _).alloc (Nat.le_refl _) _).alloc (by simp) _⟩
set_option maxHeartbeats 2000000 in
theorem cancelY_bare (wk hn hg : Int) (hw : 0 ≤ wk) (w : World) :
    Calls Tryz.prog 261 #[.agg #[.int .i64 3, .int .i64 wk, .int .i64 2, .int .i64 hn, .int .i64 hg, .int .i64 0, .int .i64 0, .int .i64 0, .int .i64 0, .int .i64 0, .bool true, .int .i64 0], .int .i64 33] w fun e w' => e = .returned (.agg #[.int .i64 3, .int .i64 wk, .int .i64 2, .int .i64 0, .int .i64 0, .int .i64 0, .int .i64 0, .int .i64 0, .int .i64 0, .int .i64 0, .bool false, .int .i64 0]) ∧ Below w.heap.size w w' := by
  have hb32 : bits BinOp.and IntKind.i64 33 32 = 32 := by kernel_rfl
  go_enter Tryz.func261, Tryz.ntmps261
  go_wp2
  refine wp_loop_rounds 4 ?_
  rw [rounds_succ]
  go_wp2
  rw [rounds_succ]
  go_wp2
  rw [rounds_succ]
  go_wp2
  rw [rounds_succ]
  go_wp2
  refine bodyPost_ret (v := .agg #[.int .i64 3, .int .i64 wk, .int .i64 2, .int .i64 0, .int .i64 0, .int .i64 0, .int .i64 0, .int .i64 0, .int .i64 0, .int .i64 0, .bool false, .int .i64 0]) (by simp [results, Tryz.results261, go_sem]) rfl ⟨rfl, ?_⟩
  repeat (first | exact Below.refl _ _ | refine Below.setCell ?_ (by simp) _ | refine Below.alloc ?_ (by simp; omega) _ | refine Below.alloc ?_ (by simp) _ | refine Below.drew ?_)
set_option maxHeartbeats 2000000 in
theorem cancelY_counted (wk hn hg : Int) (hw : 0 ≤ wk) (w : World) :
    Calls Tryz.prog 260 #[.agg #[.int .i64 3, .int .i64 wk, .int .i64 2, .int .i64 hn, .int .i64 hg, .int .i64 0, .int .i64 0, .int .i64 0, .int .i64 0, .int .i64 0, .bool true, .int .i64 0]] w fun e w' => e = .returned (.bool true) ∧ Below w.heap.size w w' := by
  have hm : ∀ (ts : Array TypeId) (t : TypeId) (w : World), Sem.run Tryz.prog (Builtin.min_ ts t #[.int .i64 0, .int .i64 0, .int .i64 0, .int .i64 0]) w = .ok (.int .i64 0) w := fun ts t w => run_min4 _ ts t 0 0 (by decide) (by decide) w
  go_enter Tryz.func260, Tryz.ntmps260
  go_wp2
  go_ret
  exact ⟨by first | rfl | (simp; done) | (simp; omega), (Below.refl _ _).alloc (Nat.le_refl _) _⟩
set_option maxHeartbeats 4000000 in
theorem cancelY_right (wk hn hg : Int) (hw : 0 ≤ wk) (w : World) :
    Calls Tryz.prog 235 #[.agg #[.int .i64 3, .int .i64 wk, .int .i64 2, .int .i64 hn, .int .i64 hg, .int .i64 0, .int .i64 0, .int .i64 0, .int .i64 0, .int .i64 0, .bool true, .int .i64 0]] w fun e w' => e = .returned (.bool true) ∧ Below w.heap.size w w' := by
  have e0 : (w.alloc (.cells #[.int .i64 3, .int .i64 wk, .int .i64 2, .int .i64 hn, .int .i64 hg, .int .i64 0, .int .i64 0, .int .i64 0, .int .i64 0, .int .i64 0, .bool true, .int .i64 0] 101)).cell? ⟨w.heap.size, 0, none⟩ = some (.int .i64 3) := by go_simp
  have e1 : (w.alloc (.cells #[.int .i64 3, .int .i64 wk, .int .i64 2, .int .i64 hn, .int .i64 hg, .int .i64 0, .int .i64 0, .int .i64 0, .int .i64 0, .int .i64 0, .bool true, .int .i64 0] 101)).cell? ⟨w.heap.size, 1, none⟩ = some (.int .i64 wk) := by go_simp
  have e2 : (w.alloc (.cells #[.int .i64 3, .int .i64 wk, .int .i64 2, .int .i64 hn, .int .i64 hg, .int .i64 0, .int .i64 0, .int .i64 0, .int .i64 0, .int .i64 0, .bool true, .int .i64 0] 101)).cell? ⟨w.heap.size, 2, none⟩ = some (.int .i64 2) := by go_simp
  have e3 : (w.alloc (.cells #[.int .i64 3, .int .i64 wk, .int .i64 2, .int .i64 hn, .int .i64 hg, .int .i64 0, .int .i64 0, .int .i64 0, .int .i64 0, .int .i64 0, .bool true, .int .i64 0] 101)).cell? ⟨w.heap.size, 3, none⟩ = some (.int .i64 hn) := by go_simp
  have e4 : (w.alloc (.cells #[.int .i64 3, .int .i64 wk, .int .i64 2, .int .i64 hn, .int .i64 hg, .int .i64 0, .int .i64 0, .int .i64 0, .int .i64 0, .int .i64 0, .bool true, .int .i64 0] 101)).cell? ⟨w.heap.size, 4, none⟩ = some (.int .i64 hg) := by go_simp
  have e5 : (w.alloc (.cells #[.int .i64 3, .int .i64 wk, .int .i64 2, .int .i64 hn, .int .i64 hg, .int .i64 0, .int .i64 0, .int .i64 0, .int .i64 0, .int .i64 0, .bool true, .int .i64 0] 101)).cell? ⟨w.heap.size, 5, none⟩ = some (.int .i64 0) := by go_simp
  have e6 : (w.alloc (.cells #[.int .i64 3, .int .i64 wk, .int .i64 2, .int .i64 hn, .int .i64 hg, .int .i64 0, .int .i64 0, .int .i64 0, .int .i64 0, .int .i64 0, .bool true, .int .i64 0] 101)).cell? ⟨w.heap.size, 6, none⟩ = some (.int .i64 0) := by go_simp
  have e7 : (w.alloc (.cells #[.int .i64 3, .int .i64 wk, .int .i64 2, .int .i64 hn, .int .i64 hg, .int .i64 0, .int .i64 0, .int .i64 0, .int .i64 0, .int .i64 0, .bool true, .int .i64 0] 101)).cell? ⟨w.heap.size, 7, none⟩ = some (.int .i64 0) := by go_simp
  have e8 : (w.alloc (.cells #[.int .i64 3, .int .i64 wk, .int .i64 2, .int .i64 hn, .int .i64 hg, .int .i64 0, .int .i64 0, .int .i64 0, .int .i64 0, .int .i64 0, .bool true, .int .i64 0] 101)).cell? ⟨w.heap.size, 8, none⟩ = some (.int .i64 0) := by go_simp
  have e9 : (w.alloc (.cells #[.int .i64 3, .int .i64 wk, .int .i64 2, .int .i64 hn, .int .i64 hg, .int .i64 0, .int .i64 0, .int .i64 0, .int .i64 0, .int .i64 0, .bool true, .int .i64 0] 101)).cell? ⟨w.heap.size, 9, none⟩ = some (.int .i64 0) := by go_simp
  have e10 : (w.alloc (.cells #[.int .i64 3, .int .i64 wk, .int .i64 2, .int .i64 hn, .int .i64 hg, .int .i64 0, .int .i64 0, .int .i64 0, .int .i64 0, .int .i64 0, .bool true, .int .i64 0] 101)).cell? ⟨w.heap.size, 10, none⟩ = some (.bool true) := by go_simp
  have e11 : (w.alloc (.cells #[.int .i64 3, .int .i64 wk, .int .i64 2, .int .i64 hn, .int .i64 hg, .int .i64 0, .int .i64 0, .int .i64 0, .int .i64 0, .int .i64 0, .bool true, .int .i64 0] 101)).cell? ⟨w.heap.size, 11, none⟩ = some (.int .i64 0) := by go_simp
  have hB : Below w.heap.size w (w.alloc (.cells #[.int .i64 3, .int .i64 wk, .int .i64 2, .int .i64 hn, .int .i64 hg, .int .i64 0, .int .i64 0, .int .i64 0, .int .i64 0, .int .i64 0, .bool true, .int .i64 0] 101)) := (Below.refl _ _).alloc (Nat.le_refl _) _
  have HF := Go.Lib.hid (cancelY_fields wk hn hg hw)
  have HC := Go.Lib.hid (cancelY_counted wk hn hg hw)
  have HBR := Go.Lib.hid (cancelY_bare wk hn hg hw)
  have hd1 : decide (wk < 0) = false := by simp; omega
  go_enter Tryz.func235, Tryz.ntmps235
  go_wp2_with fail
  generalize (w.alloc (.cells #[.int .i64 3, .int .i64 wk, .int .i64 2, .int .i64 hn, .int .i64 hg, .int .i64 0, .int .i64 0, .int .i64 0, .int .i64 0, .int .i64 0, .bool true, .int .i64 0] 101)) = W at *
  generalize hgb : w.heap.size = b at *
  replace hgb := Go.Lib.hid hgb
  refine (HF.out _).mono ?_
  rintro e w1 ⟨rfl, hb⟩
  have e0 := below_cell hb e0
  have e1 := below_cell hb e1
  have e2 := below_cell hb e2
  have e3 := below_cell hb e3
  have e4 := below_cell hb e4
  have e5 := below_cell hb e5
  have e6 := below_cell hb e6
  have e7 := below_cell hb e7
  have e8 := below_cell hb e8
  have e9 := below_cell hb e9
  have e10 := below_cell hb e10
  have e11 := below_cell hb e11
  have hB1 := hB.trans (hb.mono (by rw [← hgb.out]; exact hB.size))
  clear hb hB
  go_wp2_with fail
  refine (HC.out _).mono ?_
  rintro e w2 ⟨rfl, hb⟩
  have e0 := below_cell hb e0
  have e1 := below_cell hb e1
  have e2 := below_cell hb e2
  have e3 := below_cell hb e3
  have e4 := below_cell hb e4
  have e5 := below_cell hb e5
  have e6 := below_cell hb e6
  have e7 := below_cell hb e7
  have e8 := below_cell hb e8
  have e9 := below_cell hb e9
  have e10 := below_cell hb e10
  have e11 := below_cell hb e11
  have hB2 := hB1.trans (hb.mono (by rw [← hgb.out]; exact hB1.size))
  clear hb hB1
  go_wp2
  go_region_held3 (fun w' => w'.cell? ⟨b, 0, none⟩ = some (.int .i64 3) ∧ w'.cell? ⟨b, 1, none⟩ = some (.int .i64 wk) ∧ w'.cell? ⟨b, 2, none⟩ = some (.int .i64 2) ∧ w'.cell? ⟨b, 3, none⟩ = some (.int .i64 hn) ∧ w'.cell? ⟨b, 4, none⟩ = some (.int .i64 hg) ∧ w'.cell? ⟨b, 5, none⟩ = some (.int .i64 0) ∧ w'.cell? ⟨b, 6, none⟩ = some (.int .i64 0) ∧ w'.cell? ⟨b, 7, none⟩ = some (.int .i64 0) ∧ w'.cell? ⟨b, 8, none⟩ = some (.int .i64 0) ∧ w'.cell? ⟨b, 9, none⟩ = some (.int .i64 0) ∧ w'.cell? ⟨b, 10, none⟩ = some (.bool true) ∧ w'.cell? ⟨b, 11, none⟩ = some (.int .i64 0))
    (first | exact ⟨e0, e1, e2, e3, e4, e5, e6, e7, e8, e9, e10, e11⟩)
    (first
    | (go_at_call 261; refine (HBR.out _).mono ?_; rintro e w3 ⟨rfl, hb0⟩; have e0 := below_cell hb0 e0; have e1 := below_cell hb0 e1; have e2 := below_cell hb0 e2; have e3 := below_cell hb0 e3; have e4 := below_cell hb0 e4; have e5 := below_cell hb0 e5; have e6 := below_cell hb0 e6; have e7 := below_cell hb0 e7; have e8 := below_cell hb0 e8; have e9 := below_cell hb0 e9; have e10 := below_cell hb0 e10; have e11 := below_cell hb0 e11; have hB3 : Below b w w3 := (by first | exact hB2.trans (hb0.mono (by rw [← hgb.out]; exact hB2.size)) | exact hB2.drew.trans (hb0.mono (by rw [← hgb.out]; exact hB2.size)))))
  all_goals
    go_wp2
    go_ret
    exact ⟨rfl, hgb.out ▸ (by first | exact hB3 | exact hB3.drew)⟩
set_option maxHeartbeats 2000000 in
theorem cancelN_fields (wk hn hg : Int) (hw : 0 ≤ wk) (w : World) :
    Calls Tryz.prog 259 #[.agg #[.int .i64 3, .int .i64 wk, .int .i64 2, .int .i64 hn, .int .i64 hg, .int .i64 0, .int .i64 0, .int .i64 0, .int .i64 0, .int .i64 0, .bool false, .int .i64 0]] w fun e w' => e = .returned (.tuple #[.int .i64 33, .bool true]) ∧ Below w.heap.size w w' := by
  go_enter Tryz.func259, Tryz.ntmps259
  go_wp2
  go_ret2
  exact ⟨rfl, ((Below.refl _ _).alloc (Nat.le_refl _) _).alloc (by simp) _⟩
set_option maxHeartbeats 2000000 in
theorem cancelN_bare (wk hn hg : Int) (hw : 0 ≤ wk) (w : World) :
    Calls Tryz.prog 261 #[.agg #[.int .i64 3, .int .i64 wk, .int .i64 2, .int .i64 hn, .int .i64 hg, .int .i64 0, .int .i64 0, .int .i64 0, .int .i64 0, .int .i64 0, .bool false, .int .i64 0], .int .i64 33] w fun e w' => e = .returned (.agg #[.int .i64 3, .int .i64 wk, .int .i64 2, .int .i64 0, .int .i64 0, .int .i64 0, .int .i64 0, .int .i64 0, .int .i64 0, .int .i64 0, .bool false, .int .i64 0]) ∧ Below w.heap.size w w' := by
  go_enter Tryz.func261, Tryz.ntmps261
  go_wp2
  refine wp_loop_rounds 4 ?_
  rw [rounds_succ]
  go_wp2
  rw [rounds_succ]
  go_wp2
  rw [rounds_succ]
  go_wp2
  rw [rounds_succ]
  go_wp2
  refine bodyPost_ret (v := .agg #[.int .i64 3, .int .i64 wk, .int .i64 2, .int .i64 0, .int .i64 0, .int .i64 0, .int .i64 0, .int .i64 0, .int .i64 0, .int .i64 0, .bool false, .int .i64 0]) (by simp [results, Tryz.results261, go_sem]) rfl ⟨rfl, ?_⟩
  repeat (first | exact Below.refl _ _ | refine Below.setCell ?_ (by simp) _ | refine Below.alloc ?_ (by simp; omega) _ | refine Below.alloc ?_ (by simp) _ | refine Below.drew ?_)
set_option maxHeartbeats 2000000 in
theorem cancelN_counted (wk hn hg : Int) (hw : 0 ≤ wk) (w : World) :
    Calls Tryz.prog 260 #[.agg #[.int .i64 3, .int .i64 wk, .int .i64 2, .int .i64 hn, .int .i64 hg, .int .i64 0, .int .i64 0, .int .i64 0, .int .i64 0, .int .i64 0, .bool false, .int .i64 0]] w fun e w' => e = .returned (.bool true) ∧ Below w.heap.size w w' := by
  have hm : ∀ (ts : Array TypeId) (t : TypeId) (w : World), Sem.run Tryz.prog (Builtin.min_ ts t #[.int .i64 0, .int .i64 0, .int .i64 0, .int .i64 0]) w = .ok (.int .i64 0) w := fun ts t w => run_min4 _ ts t 0 0 (by decide) (by decide) w
  go_enter Tryz.func260, Tryz.ntmps260
  go_wp2
  go_ret
  exact ⟨by first | rfl | (simp; done) | (simp; omega), (Below.refl _ _).alloc (Nat.le_refl _) _⟩
set_option maxHeartbeats 4000000 in
theorem cancelN_right (wk hn hg : Int) (hw : 0 ≤ wk) (w : World) :
    Calls Tryz.prog 235 #[.agg #[.int .i64 3, .int .i64 wk, .int .i64 2, .int .i64 hn, .int .i64 hg, .int .i64 0, .int .i64 0, .int .i64 0, .int .i64 0, .int .i64 0, .bool false, .int .i64 0]] w fun e w' => e = .returned (.bool true) ∧ Below w.heap.size w w' := by
  have e0 : (w.alloc (.cells #[.int .i64 3, .int .i64 wk, .int .i64 2, .int .i64 hn, .int .i64 hg, .int .i64 0, .int .i64 0, .int .i64 0, .int .i64 0, .int .i64 0, .bool false, .int .i64 0] 101)).cell? ⟨w.heap.size, 0, none⟩ = some (.int .i64 3) := by go_simp
  have e1 : (w.alloc (.cells #[.int .i64 3, .int .i64 wk, .int .i64 2, .int .i64 hn, .int .i64 hg, .int .i64 0, .int .i64 0, .int .i64 0, .int .i64 0, .int .i64 0, .bool false, .int .i64 0] 101)).cell? ⟨w.heap.size, 1, none⟩ = some (.int .i64 wk) := by go_simp
  have e2 : (w.alloc (.cells #[.int .i64 3, .int .i64 wk, .int .i64 2, .int .i64 hn, .int .i64 hg, .int .i64 0, .int .i64 0, .int .i64 0, .int .i64 0, .int .i64 0, .bool false, .int .i64 0] 101)).cell? ⟨w.heap.size, 2, none⟩ = some (.int .i64 2) := by go_simp
  have e3 : (w.alloc (.cells #[.int .i64 3, .int .i64 wk, .int .i64 2, .int .i64 hn, .int .i64 hg, .int .i64 0, .int .i64 0, .int .i64 0, .int .i64 0, .int .i64 0, .bool false, .int .i64 0] 101)).cell? ⟨w.heap.size, 3, none⟩ = some (.int .i64 hn) := by go_simp
  have e4 : (w.alloc (.cells #[.int .i64 3, .int .i64 wk, .int .i64 2, .int .i64 hn, .int .i64 hg, .int .i64 0, .int .i64 0, .int .i64 0, .int .i64 0, .int .i64 0, .bool false, .int .i64 0] 101)).cell? ⟨w.heap.size, 4, none⟩ = some (.int .i64 hg) := by go_simp
  have e5 : (w.alloc (.cells #[.int .i64 3, .int .i64 wk, .int .i64 2, .int .i64 hn, .int .i64 hg, .int .i64 0, .int .i64 0, .int .i64 0, .int .i64 0, .int .i64 0, .bool false, .int .i64 0] 101)).cell? ⟨w.heap.size, 5, none⟩ = some (.int .i64 0) := by go_simp
  have e6 : (w.alloc (.cells #[.int .i64 3, .int .i64 wk, .int .i64 2, .int .i64 hn, .int .i64 hg, .int .i64 0, .int .i64 0, .int .i64 0, .int .i64 0, .int .i64 0, .bool false, .int .i64 0] 101)).cell? ⟨w.heap.size, 6, none⟩ = some (.int .i64 0) := by go_simp
  have e7 : (w.alloc (.cells #[.int .i64 3, .int .i64 wk, .int .i64 2, .int .i64 hn, .int .i64 hg, .int .i64 0, .int .i64 0, .int .i64 0, .int .i64 0, .int .i64 0, .bool false, .int .i64 0] 101)).cell? ⟨w.heap.size, 7, none⟩ = some (.int .i64 0) := by go_simp
  have e8 : (w.alloc (.cells #[.int .i64 3, .int .i64 wk, .int .i64 2, .int .i64 hn, .int .i64 hg, .int .i64 0, .int .i64 0, .int .i64 0, .int .i64 0, .int .i64 0, .bool false, .int .i64 0] 101)).cell? ⟨w.heap.size, 8, none⟩ = some (.int .i64 0) := by go_simp
  have e9 : (w.alloc (.cells #[.int .i64 3, .int .i64 wk, .int .i64 2, .int .i64 hn, .int .i64 hg, .int .i64 0, .int .i64 0, .int .i64 0, .int .i64 0, .int .i64 0, .bool false, .int .i64 0] 101)).cell? ⟨w.heap.size, 9, none⟩ = some (.int .i64 0) := by go_simp
  have e10 : (w.alloc (.cells #[.int .i64 3, .int .i64 wk, .int .i64 2, .int .i64 hn, .int .i64 hg, .int .i64 0, .int .i64 0, .int .i64 0, .int .i64 0, .int .i64 0, .bool false, .int .i64 0] 101)).cell? ⟨w.heap.size, 10, none⟩ = some (.bool false) := by go_simp
  have e11 : (w.alloc (.cells #[.int .i64 3, .int .i64 wk, .int .i64 2, .int .i64 hn, .int .i64 hg, .int .i64 0, .int .i64 0, .int .i64 0, .int .i64 0, .int .i64 0, .bool false, .int .i64 0] 101)).cell? ⟨w.heap.size, 11, none⟩ = some (.int .i64 0) := by go_simp
  have hB : Below w.heap.size w (w.alloc (.cells #[.int .i64 3, .int .i64 wk, .int .i64 2, .int .i64 hn, .int .i64 hg, .int .i64 0, .int .i64 0, .int .i64 0, .int .i64 0, .int .i64 0, .bool false, .int .i64 0] 101)) := (Below.refl _ _).alloc (Nat.le_refl _) _
  have HF := Go.Lib.hid (cancelN_fields wk hn hg hw)
  have HC := Go.Lib.hid (cancelN_counted wk hn hg hw)
  have HBR := Go.Lib.hid (cancelN_bare wk hn hg hw)
  have hd1 : decide (wk < 0) = false := by simp; omega
  go_enter Tryz.func235, Tryz.ntmps235
  go_wp2_with fail
  generalize (w.alloc (.cells #[.int .i64 3, .int .i64 wk, .int .i64 2, .int .i64 hn, .int .i64 hg, .int .i64 0, .int .i64 0, .int .i64 0, .int .i64 0, .int .i64 0, .bool false, .int .i64 0] 101)) = W at *
  generalize hgb : w.heap.size = b at *
  replace hgb := Go.Lib.hid hgb
  refine (HF.out _).mono ?_
  rintro e w1 ⟨rfl, hb⟩
  have e0 := below_cell hb e0
  have e1 := below_cell hb e1
  have e2 := below_cell hb e2
  have e3 := below_cell hb e3
  have e4 := below_cell hb e4
  have e5 := below_cell hb e5
  have e6 := below_cell hb e6
  have e7 := below_cell hb e7
  have e8 := below_cell hb e8
  have e9 := below_cell hb e9
  have e10 := below_cell hb e10
  have e11 := below_cell hb e11
  have hB1 := hB.trans (hb.mono (by rw [← hgb.out]; exact hB.size))
  clear hb hB
  go_wp2_with fail
  refine (HC.out _).mono ?_
  rintro e w2 ⟨rfl, hb⟩
  have e0 := below_cell hb e0
  have e1 := below_cell hb e1
  have e2 := below_cell hb e2
  have e3 := below_cell hb e3
  have e4 := below_cell hb e4
  have e5 := below_cell hb e5
  have e6 := below_cell hb e6
  have e7 := below_cell hb e7
  have e8 := below_cell hb e8
  have e9 := below_cell hb e9
  have e10 := below_cell hb e10
  have e11 := below_cell hb e11
  have hB2 := hB1.trans (hb.mono (by rw [← hgb.out]; exact hB1.size))
  clear hb hB1
  go_wp2
  go_region_held3 (fun w' => w'.cell? ⟨b, 0, none⟩ = some (.int .i64 3) ∧ w'.cell? ⟨b, 1, none⟩ = some (.int .i64 wk) ∧ w'.cell? ⟨b, 2, none⟩ = some (.int .i64 2) ∧ w'.cell? ⟨b, 3, none⟩ = some (.int .i64 hn) ∧ w'.cell? ⟨b, 4, none⟩ = some (.int .i64 hg) ∧ w'.cell? ⟨b, 5, none⟩ = some (.int .i64 0) ∧ w'.cell? ⟨b, 6, none⟩ = some (.int .i64 0) ∧ w'.cell? ⟨b, 7, none⟩ = some (.int .i64 0) ∧ w'.cell? ⟨b, 8, none⟩ = some (.int .i64 0) ∧ w'.cell? ⟨b, 9, none⟩ = some (.int .i64 0) ∧ w'.cell? ⟨b, 10, none⟩ = some (.bool false) ∧ w'.cell? ⟨b, 11, none⟩ = some (.int .i64 0))
    (first | exact ⟨e0, e1, e2, e3, e4, e5, e6, e7, e8, e9, e10, e11⟩)
    (first
    | (go_at_call 261; refine (HBR.out _).mono ?_; rintro e w3 ⟨rfl, hb0⟩; have e0 := below_cell hb0 e0; have e1 := below_cell hb0 e1; have e2 := below_cell hb0 e2; have e3 := below_cell hb0 e3; have e4 := below_cell hb0 e4; have e5 := below_cell hb0 e5; have e6 := below_cell hb0 e6; have e7 := below_cell hb0 e7; have e8 := below_cell hb0 e8; have e9 := below_cell hb0 e9; have e10 := below_cell hb0 e10; have e11 := below_cell hb0 e11; have hB3 : Below b w w3 := (by first | exact hB2.trans (hb0.mono (by rw [← hgb.out]; exact hB2.size)) | exact hB2.drew.trans (hb0.mono (by rw [← hgb.out]; exact hB2.size)))))
  all_goals
    go_wp2
    go_ret
    exact ⟨rfl, hgb.out ▸ (by first | exact hB3 | exact hB3.drew)⟩
set_option maxHeartbeats 2000000 in
theorem rearm0_fields (wk hn hg n g T : Int) (hw : 0 ≤ wk) (h1 : 0 ≤ n) (h2 : 0 ≤ g) (h3 : 0 ≤ T) (w : World) :
    Calls Tryz.prog 259 #[.agg #[.int .i64 3, .int .i64 wk, .int .i64 3, .int .i64 hn, .int .i64 hg, .int .i64 n, .int .i64 g, .int .i64 T, .int .i64 0, .int .i64 0, .bool false, .int .i64 0]] w fun e w' => e = .returned (.tuple #[.int .i64 71, .bool true]) ∧ Below w.heap.size w w' := by
  go_enter Tryz.func259, Tryz.ntmps259
  go_wp2
  go_ret2
  exact ⟨rfl, ((Below.refl _ _).alloc (Nat.le_refl _) _).alloc (by simp) _⟩
set_option maxHeartbeats 2000000 in
theorem rearm0_bare (wk hn hg n g T : Int) (hw : 0 ≤ wk) (h1 : 0 ≤ n) (h2 : 0 ≤ g) (h3 : 0 ≤ T) (w : World) :
    Calls Tryz.prog 261 #[.agg #[.int .i64 3, .int .i64 wk, .int .i64 3, .int .i64 hn, .int .i64 hg, .int .i64 n, .int .i64 g, .int .i64 T, .int .i64 0, .int .i64 0, .bool false, .int .i64 0], .int .i64 71] w fun e w' => e = .returned (.agg #[.int .i64 3, .int .i64 wk, .int .i64 3, .int .i64 0, .int .i64 0, .int .i64 0, .int .i64 0, .int .i64 0, .int .i64 0, .int .i64 0, .bool false, .int .i64 0]) ∧ Below w.heap.size w w' := by
  go_enter Tryz.func261, Tryz.ntmps261
  go_wp2
  refine wp_loop_rounds 4 ?_
  rw [rounds_succ]
  go_wp2
  rw [rounds_succ]
  go_wp2
  rw [rounds_succ]
  go_wp2
  rw [rounds_succ]
  go_wp2
  refine bodyPost_ret (v := .agg #[.int .i64 3, .int .i64 wk, .int .i64 3, .int .i64 0, .int .i64 0, .int .i64 0, .int .i64 0, .int .i64 0, .int .i64 0, .int .i64 0, .bool false, .int .i64 0]) (by simp [results, Tryz.results261, go_sem]) rfl ⟨rfl, ?_⟩
  repeat (first | exact Below.refl _ _ | refine Below.setCell ?_ (by simp) _ | refine Below.alloc ?_ (by simp; omega) _ | refine Below.alloc ?_ (by simp) _ | refine Below.drew ?_)
set_option maxHeartbeats 2000000 in
theorem rearm0_counted (wk hn hg n g T : Int) (hw : 0 ≤ wk) (h1 : 0 ≤ n) (h2 : 0 ≤ g) (h3 : 0 ≤ T) (w : World) :
    Calls Tryz.prog 260 #[.agg #[.int .i64 3, .int .i64 wk, .int .i64 3, .int .i64 hn, .int .i64 hg, .int .i64 n, .int .i64 g, .int .i64 T, .int .i64 0, .int .i64 0, .bool false, .int .i64 0]] w fun e w' => e = .returned (.bool true) ∧ Below w.heap.size w w' := by
  have hm : ∀ (ts : Array TypeId) (t : TypeId) (w : World), Sem.run Tryz.prog (Builtin.min_ ts t #[.int .i64 n, .int .i64 g, .int .i64 0, .int .i64 0]) w = .ok (.int .i64 0) w := fun ts t w => run_min4 _ ts t n g h1 h2 w
  go_enter Tryz.func260, Tryz.ntmps260
  go_wp2
  go_ret
  exact ⟨by first | rfl | (simp; done) | (simp; omega), (Below.refl _ _).alloc (Nat.le_refl _) _⟩
set_option maxHeartbeats 4000000 in
theorem rearm0_right (wk hn hg n g T : Int) (hw : 0 ≤ wk) (h1 : 0 ≤ n) (h2 : 0 ≤ g) (h3 : 0 ≤ T) (w : World) :
    Calls Tryz.prog 235 #[.agg #[.int .i64 3, .int .i64 wk, .int .i64 3, .int .i64 hn, .int .i64 hg, .int .i64 n, .int .i64 g, .int .i64 T, .int .i64 0, .int .i64 0, .bool false, .int .i64 0]] w fun e w' => e = .returned (.bool true) ∧ Below w.heap.size w w' := by
  have e0 : (w.alloc (.cells #[.int .i64 3, .int .i64 wk, .int .i64 3, .int .i64 hn, .int .i64 hg, .int .i64 n, .int .i64 g, .int .i64 T, .int .i64 0, .int .i64 0, .bool false, .int .i64 0] 101)).cell? ⟨w.heap.size, 0, none⟩ = some (.int .i64 3) := by go_simp
  have e1 : (w.alloc (.cells #[.int .i64 3, .int .i64 wk, .int .i64 3, .int .i64 hn, .int .i64 hg, .int .i64 n, .int .i64 g, .int .i64 T, .int .i64 0, .int .i64 0, .bool false, .int .i64 0] 101)).cell? ⟨w.heap.size, 1, none⟩ = some (.int .i64 wk) := by go_simp
  have e2 : (w.alloc (.cells #[.int .i64 3, .int .i64 wk, .int .i64 3, .int .i64 hn, .int .i64 hg, .int .i64 n, .int .i64 g, .int .i64 T, .int .i64 0, .int .i64 0, .bool false, .int .i64 0] 101)).cell? ⟨w.heap.size, 2, none⟩ = some (.int .i64 3) := by go_simp
  have e3 : (w.alloc (.cells #[.int .i64 3, .int .i64 wk, .int .i64 3, .int .i64 hn, .int .i64 hg, .int .i64 n, .int .i64 g, .int .i64 T, .int .i64 0, .int .i64 0, .bool false, .int .i64 0] 101)).cell? ⟨w.heap.size, 3, none⟩ = some (.int .i64 hn) := by go_simp
  have e4 : (w.alloc (.cells #[.int .i64 3, .int .i64 wk, .int .i64 3, .int .i64 hn, .int .i64 hg, .int .i64 n, .int .i64 g, .int .i64 T, .int .i64 0, .int .i64 0, .bool false, .int .i64 0] 101)).cell? ⟨w.heap.size, 4, none⟩ = some (.int .i64 hg) := by go_simp
  have e5 : (w.alloc (.cells #[.int .i64 3, .int .i64 wk, .int .i64 3, .int .i64 hn, .int .i64 hg, .int .i64 n, .int .i64 g, .int .i64 T, .int .i64 0, .int .i64 0, .bool false, .int .i64 0] 101)).cell? ⟨w.heap.size, 5, none⟩ = some (.int .i64 n) := by go_simp
  have e6 : (w.alloc (.cells #[.int .i64 3, .int .i64 wk, .int .i64 3, .int .i64 hn, .int .i64 hg, .int .i64 n, .int .i64 g, .int .i64 T, .int .i64 0, .int .i64 0, .bool false, .int .i64 0] 101)).cell? ⟨w.heap.size, 6, none⟩ = some (.int .i64 g) := by go_simp
  have e7 : (w.alloc (.cells #[.int .i64 3, .int .i64 wk, .int .i64 3, .int .i64 hn, .int .i64 hg, .int .i64 n, .int .i64 g, .int .i64 T, .int .i64 0, .int .i64 0, .bool false, .int .i64 0] 101)).cell? ⟨w.heap.size, 7, none⟩ = some (.int .i64 T) := by go_simp
  have e8 : (w.alloc (.cells #[.int .i64 3, .int .i64 wk, .int .i64 3, .int .i64 hn, .int .i64 hg, .int .i64 n, .int .i64 g, .int .i64 T, .int .i64 0, .int .i64 0, .bool false, .int .i64 0] 101)).cell? ⟨w.heap.size, 8, none⟩ = some (.int .i64 0) := by go_simp
  have e9 : (w.alloc (.cells #[.int .i64 3, .int .i64 wk, .int .i64 3, .int .i64 hn, .int .i64 hg, .int .i64 n, .int .i64 g, .int .i64 T, .int .i64 0, .int .i64 0, .bool false, .int .i64 0] 101)).cell? ⟨w.heap.size, 9, none⟩ = some (.int .i64 0) := by go_simp
  have e10 : (w.alloc (.cells #[.int .i64 3, .int .i64 wk, .int .i64 3, .int .i64 hn, .int .i64 hg, .int .i64 n, .int .i64 g, .int .i64 T, .int .i64 0, .int .i64 0, .bool false, .int .i64 0] 101)).cell? ⟨w.heap.size, 10, none⟩ = some (.bool false) := by go_simp
  have e11 : (w.alloc (.cells #[.int .i64 3, .int .i64 wk, .int .i64 3, .int .i64 hn, .int .i64 hg, .int .i64 n, .int .i64 g, .int .i64 T, .int .i64 0, .int .i64 0, .bool false, .int .i64 0] 101)).cell? ⟨w.heap.size, 11, none⟩ = some (.int .i64 0) := by go_simp
  have hB : Below w.heap.size w (w.alloc (.cells #[.int .i64 3, .int .i64 wk, .int .i64 3, .int .i64 hn, .int .i64 hg, .int .i64 n, .int .i64 g, .int .i64 T, .int .i64 0, .int .i64 0, .bool false, .int .i64 0] 101)) := (Below.refl _ _).alloc (Nat.le_refl _) _
  have HF := Go.Lib.hid (rearm0_fields wk hn hg n g T hw h1 h2 h3)
  have HC := Go.Lib.hid (rearm0_counted wk hn hg n g T hw h1 h2 h3)
  have HBR := Go.Lib.hid (rearm0_bare wk hn hg n g T hw h1 h2 h3)
  have hd1 : decide (wk < 0) = false := by simp; omega
  go_enter Tryz.func235, Tryz.ntmps235
  go_wp2_with fail
  generalize (w.alloc (.cells #[.int .i64 3, .int .i64 wk, .int .i64 3, .int .i64 hn, .int .i64 hg, .int .i64 n, .int .i64 g, .int .i64 T, .int .i64 0, .int .i64 0, .bool false, .int .i64 0] 101)) = W at *
  generalize hgb : w.heap.size = b at *
  replace hgb := Go.Lib.hid hgb
  refine (HF.out _).mono ?_
  rintro e w1 ⟨rfl, hb⟩
  have e0 := below_cell hb e0
  have e1 := below_cell hb e1
  have e2 := below_cell hb e2
  have e3 := below_cell hb e3
  have e4 := below_cell hb e4
  have e5 := below_cell hb e5
  have e6 := below_cell hb e6
  have e7 := below_cell hb e7
  have e8 := below_cell hb e8
  have e9 := below_cell hb e9
  have e10 := below_cell hb e10
  have e11 := below_cell hb e11
  have hB1 := hB.trans (hb.mono (by rw [← hgb.out]; exact hB.size))
  clear hb hB
  go_wp2_with fail
  refine (HC.out _).mono ?_
  rintro e w2 ⟨rfl, hb⟩
  have e0 := below_cell hb e0
  have e1 := below_cell hb e1
  have e2 := below_cell hb e2
  have e3 := below_cell hb e3
  have e4 := below_cell hb e4
  have e5 := below_cell hb e5
  have e6 := below_cell hb e6
  have e7 := below_cell hb e7
  have e8 := below_cell hb e8
  have e9 := below_cell hb e9
  have e10 := below_cell hb e10
  have e11 := below_cell hb e11
  have hB2 := hB1.trans (hb.mono (by rw [← hgb.out]; exact hB1.size))
  clear hb hB1
  go_wp2
  go_region_held3 (fun w' => w'.cell? ⟨b, 0, none⟩ = some (.int .i64 3) ∧ w'.cell? ⟨b, 1, none⟩ = some (.int .i64 wk) ∧ w'.cell? ⟨b, 2, none⟩ = some (.int .i64 3) ∧ w'.cell? ⟨b, 3, none⟩ = some (.int .i64 hn) ∧ w'.cell? ⟨b, 4, none⟩ = some (.int .i64 hg) ∧ w'.cell? ⟨b, 5, none⟩ = some (.int .i64 n) ∧ w'.cell? ⟨b, 6, none⟩ = some (.int .i64 g) ∧ w'.cell? ⟨b, 7, none⟩ = some (.int .i64 T) ∧ w'.cell? ⟨b, 8, none⟩ = some (.int .i64 0) ∧ w'.cell? ⟨b, 9, none⟩ = some (.int .i64 0) ∧ w'.cell? ⟨b, 10, none⟩ = some (.bool false) ∧ w'.cell? ⟨b, 11, none⟩ = some (.int .i64 0))
    (first | exact ⟨e0, e1, e2, e3, e4, e5, e6, e7, e8, e9, e10, e11⟩)
    (first
    | (go_at_call 261; refine (HBR.out _).mono ?_; rintro e w3 ⟨rfl, hb0⟩; have e0 := below_cell hb0 e0; have e1 := below_cell hb0 e1; have e2 := below_cell hb0 e2; have e3 := below_cell hb0 e3; have e4 := below_cell hb0 e4; have e5 := below_cell hb0 e5; have e6 := below_cell hb0 e6; have e7 := below_cell hb0 e7; have e8 := below_cell hb0 e8; have e9 := below_cell hb0 e9; have e10 := below_cell hb0 e10; have e11 := below_cell hb0 e11; have hB3 : Below b w w3 := (by first | exact hB2.trans (hb0.mono (by rw [← hgb.out]; exact hB2.size)) | exact hB2.drew.trans (hb0.mono (by rw [← hgb.out]; exact hB2.size)))))
  all_goals
    go_wp2
    go_ret
    exact ⟨rfl, hgb.out ▸ (by first | exact hB3 | exact hB3.drew)⟩
set_option maxHeartbeats 2000000 in
theorem rearmE_fields (wk hn hg er : Int) (hw : 0 ≤ wk) (he : 0 < er) (w : World) :
    Calls Tryz.prog 259 #[.agg #[.int .i64 3, .int .i64 wk, .int .i64 3, .int .i64 hn, .int .i64 hg, .int .i64 0, .int .i64 0, .int .i64 0, .int .i64 0, .int .i64 0, .bool false, .int .i64 er]] w fun e w' => e = .returned (.tuple #[.int .i64 65, .bool true]) ∧ Below w.heap.size w w' := by
  have hq : (er != 0) = true := by simp; omega
  go_enter Tryz.func259, Tryz.ntmps259
  go_wp2
  go_ret2
  exact ⟨rfl, ((Below.refl _ _).alloc (Nat.le_refl _) _).alloc (by simp) _⟩
set_option maxHeartbeats 2000000 in
theorem rearmE_bare (wk hn hg er : Int) (hw : 0 ≤ wk) (he : 0 < er) (w : World) :
    Calls Tryz.prog 261 #[.agg #[.int .i64 3, .int .i64 wk, .int .i64 3, .int .i64 hn, .int .i64 hg, .int .i64 0, .int .i64 0, .int .i64 0, .int .i64 0, .int .i64 0, .bool false, .int .i64 er], .int .i64 65] w fun e w' => e = .returned (.agg #[.int .i64 3, .int .i64 wk, .int .i64 3, .int .i64 0, .int .i64 0, .int .i64 0, .int .i64 0, .int .i64 0, .int .i64 0, .int .i64 0, .bool false, .int .i64 0]) ∧ Below w.heap.size w w' := by
  go_enter Tryz.func261, Tryz.ntmps261
  go_wp2
  refine wp_loop_rounds 4 ?_
  rw [rounds_succ]
  go_wp2
  rw [rounds_succ]
  go_wp2
  rw [rounds_succ]
  go_wp2
  rw [rounds_succ]
  go_wp2
  refine bodyPost_ret (v := .agg #[.int .i64 3, .int .i64 wk, .int .i64 3, .int .i64 0, .int .i64 0, .int .i64 0, .int .i64 0, .int .i64 0, .int .i64 0, .int .i64 0, .bool false, .int .i64 0]) (by simp [results, Tryz.results261, go_sem]) rfl ⟨rfl, ?_⟩
  repeat (first | exact Below.refl _ _ | refine Below.setCell ?_ (by simp) _ | refine Below.alloc ?_ (by simp; omega) _ | refine Below.alloc ?_ (by simp) _ | refine Below.drew ?_)
set_option maxHeartbeats 2000000 in
theorem rearmE_counted (wk hn hg er : Int) (hw : 0 ≤ wk) (he : 0 < er) (w : World) :
    Calls Tryz.prog 260 #[.agg #[.int .i64 3, .int .i64 wk, .int .i64 3, .int .i64 hn, .int .i64 hg, .int .i64 0, .int .i64 0, .int .i64 0, .int .i64 0, .int .i64 0, .bool false, .int .i64 er]] w fun e w' => e = .returned (.bool true) ∧ Below w.heap.size w w' := by
  have hm : ∀ (ts : Array TypeId) (t : TypeId) (w : World), Sem.run Tryz.prog (Builtin.min_ ts t #[.int .i64 0, .int .i64 0, .int .i64 0, .int .i64 0]) w = .ok (.int .i64 0) w := fun ts t w => run_min4 _ ts t 0 0 (by decide) (by decide) w
  go_enter Tryz.func260, Tryz.ntmps260
  go_wp2
  go_ret
  exact ⟨by first | rfl | (simp; done) | (simp; omega), (Below.refl _ _).alloc (Nat.le_refl _) _⟩
set_option maxHeartbeats 4000000 in
theorem rearmE_right (wk hn hg er : Int) (hw : 0 ≤ wk) (he : 0 < er) (w : World) :
    Calls Tryz.prog 235 #[.agg #[.int .i64 3, .int .i64 wk, .int .i64 3, .int .i64 hn, .int .i64 hg, .int .i64 0, .int .i64 0, .int .i64 0, .int .i64 0, .int .i64 0, .bool false, .int .i64 er]] w fun e w' => e = .returned (.bool true) ∧ Below w.heap.size w w' := by
  have e0 : (w.alloc (.cells #[.int .i64 3, .int .i64 wk, .int .i64 3, .int .i64 hn, .int .i64 hg, .int .i64 0, .int .i64 0, .int .i64 0, .int .i64 0, .int .i64 0, .bool false, .int .i64 er] 101)).cell? ⟨w.heap.size, 0, none⟩ = some (.int .i64 3) := by go_simp
  have e1 : (w.alloc (.cells #[.int .i64 3, .int .i64 wk, .int .i64 3, .int .i64 hn, .int .i64 hg, .int .i64 0, .int .i64 0, .int .i64 0, .int .i64 0, .int .i64 0, .bool false, .int .i64 er] 101)).cell? ⟨w.heap.size, 1, none⟩ = some (.int .i64 wk) := by go_simp
  have e2 : (w.alloc (.cells #[.int .i64 3, .int .i64 wk, .int .i64 3, .int .i64 hn, .int .i64 hg, .int .i64 0, .int .i64 0, .int .i64 0, .int .i64 0, .int .i64 0, .bool false, .int .i64 er] 101)).cell? ⟨w.heap.size, 2, none⟩ = some (.int .i64 3) := by go_simp
  have e3 : (w.alloc (.cells #[.int .i64 3, .int .i64 wk, .int .i64 3, .int .i64 hn, .int .i64 hg, .int .i64 0, .int .i64 0, .int .i64 0, .int .i64 0, .int .i64 0, .bool false, .int .i64 er] 101)).cell? ⟨w.heap.size, 3, none⟩ = some (.int .i64 hn) := by go_simp
  have e4 : (w.alloc (.cells #[.int .i64 3, .int .i64 wk, .int .i64 3, .int .i64 hn, .int .i64 hg, .int .i64 0, .int .i64 0, .int .i64 0, .int .i64 0, .int .i64 0, .bool false, .int .i64 er] 101)).cell? ⟨w.heap.size, 4, none⟩ = some (.int .i64 hg) := by go_simp
  have e5 : (w.alloc (.cells #[.int .i64 3, .int .i64 wk, .int .i64 3, .int .i64 hn, .int .i64 hg, .int .i64 0, .int .i64 0, .int .i64 0, .int .i64 0, .int .i64 0, .bool false, .int .i64 er] 101)).cell? ⟨w.heap.size, 5, none⟩ = some (.int .i64 0) := by go_simp
  have e6 : (w.alloc (.cells #[.int .i64 3, .int .i64 wk, .int .i64 3, .int .i64 hn, .int .i64 hg, .int .i64 0, .int .i64 0, .int .i64 0, .int .i64 0, .int .i64 0, .bool false, .int .i64 er] 101)).cell? ⟨w.heap.size, 6, none⟩ = some (.int .i64 0) := by go_simp
  have e7 : (w.alloc (.cells #[.int .i64 3, .int .i64 wk, .int .i64 3, .int .i64 hn, .int .i64 hg, .int .i64 0, .int .i64 0, .int .i64 0, .int .i64 0, .int .i64 0, .bool false, .int .i64 er] 101)).cell? ⟨w.heap.size, 7, none⟩ = some (.int .i64 0) := by go_simp
  have e8 : (w.alloc (.cells #[.int .i64 3, .int .i64 wk, .int .i64 3, .int .i64 hn, .int .i64 hg, .int .i64 0, .int .i64 0, .int .i64 0, .int .i64 0, .int .i64 0, .bool false, .int .i64 er] 101)).cell? ⟨w.heap.size, 8, none⟩ = some (.int .i64 0) := by go_simp
  have e9 : (w.alloc (.cells #[.int .i64 3, .int .i64 wk, .int .i64 3, .int .i64 hn, .int .i64 hg, .int .i64 0, .int .i64 0, .int .i64 0, .int .i64 0, .int .i64 0, .bool false, .int .i64 er] 101)).cell? ⟨w.heap.size, 9, none⟩ = some (.int .i64 0) := by go_simp
  have e10 : (w.alloc (.cells #[.int .i64 3, .int .i64 wk, .int .i64 3, .int .i64 hn, .int .i64 hg, .int .i64 0, .int .i64 0, .int .i64 0, .int .i64 0, .int .i64 0, .bool false, .int .i64 er] 101)).cell? ⟨w.heap.size, 10, none⟩ = some (.bool false) := by go_simp
  have e11 : (w.alloc (.cells #[.int .i64 3, .int .i64 wk, .int .i64 3, .int .i64 hn, .int .i64 hg, .int .i64 0, .int .i64 0, .int .i64 0, .int .i64 0, .int .i64 0, .bool false, .int .i64 er] 101)).cell? ⟨w.heap.size, 11, none⟩ = some (.int .i64 er) := by go_simp
  have hB : Below w.heap.size w (w.alloc (.cells #[.int .i64 3, .int .i64 wk, .int .i64 3, .int .i64 hn, .int .i64 hg, .int .i64 0, .int .i64 0, .int .i64 0, .int .i64 0, .int .i64 0, .bool false, .int .i64 er] 101)) := (Below.refl _ _).alloc (Nat.le_refl _) _
  have HF := Go.Lib.hid (rearmE_fields wk hn hg er hw he)
  have HC := Go.Lib.hid (rearmE_counted wk hn hg er hw he)
  have HBR := Go.Lib.hid (rearmE_bare wk hn hg er hw he)
  have hd1 : decide (wk < 0) = false := by simp; omega
  have hd2 : decide (er < 0) = false := by simp; omega
  go_enter Tryz.func235, Tryz.ntmps235
  go_wp2_with fail
  generalize (w.alloc (.cells #[.int .i64 3, .int .i64 wk, .int .i64 3, .int .i64 hn, .int .i64 hg, .int .i64 0, .int .i64 0, .int .i64 0, .int .i64 0, .int .i64 0, .bool false, .int .i64 er] 101)) = W at *
  generalize hgb : w.heap.size = b at *
  replace hgb := Go.Lib.hid hgb
  refine (HF.out _).mono ?_
  rintro e w1 ⟨rfl, hb⟩
  have e0 := below_cell hb e0
  have e1 := below_cell hb e1
  have e2 := below_cell hb e2
  have e3 := below_cell hb e3
  have e4 := below_cell hb e4
  have e5 := below_cell hb e5
  have e6 := below_cell hb e6
  have e7 := below_cell hb e7
  have e8 := below_cell hb e8
  have e9 := below_cell hb e9
  have e10 := below_cell hb e10
  have e11 := below_cell hb e11
  have hB1 := hB.trans (hb.mono (by rw [← hgb.out]; exact hB.size))
  clear hb hB
  go_wp2_with fail
  refine (HC.out _).mono ?_
  rintro e w2 ⟨rfl, hb⟩
  have e0 := below_cell hb e0
  have e1 := below_cell hb e1
  have e2 := below_cell hb e2
  have e3 := below_cell hb e3
  have e4 := below_cell hb e4
  have e5 := below_cell hb e5
  have e6 := below_cell hb e6
  have e7 := below_cell hb e7
  have e8 := below_cell hb e8
  have e9 := below_cell hb e9
  have e10 := below_cell hb e10
  have e11 := below_cell hb e11
  have hB2 := hB1.trans (hb.mono (by rw [← hgb.out]; exact hB1.size))
  clear hb hB1
  go_wp2
  go_region_held3 (fun w' => w'.cell? ⟨b, 0, none⟩ = some (.int .i64 3) ∧ w'.cell? ⟨b, 1, none⟩ = some (.int .i64 wk) ∧ w'.cell? ⟨b, 2, none⟩ = some (.int .i64 3) ∧ w'.cell? ⟨b, 3, none⟩ = some (.int .i64 hn) ∧ w'.cell? ⟨b, 4, none⟩ = some (.int .i64 hg) ∧ w'.cell? ⟨b, 5, none⟩ = some (.int .i64 0) ∧ w'.cell? ⟨b, 6, none⟩ = some (.int .i64 0) ∧ w'.cell? ⟨b, 7, none⟩ = some (.int .i64 0) ∧ w'.cell? ⟨b, 8, none⟩ = some (.int .i64 0) ∧ w'.cell? ⟨b, 9, none⟩ = some (.int .i64 0) ∧ w'.cell? ⟨b, 10, none⟩ = some (.bool false) ∧ w'.cell? ⟨b, 11, none⟩ = some (.int .i64 er))
    (first | exact ⟨e0, e1, e2, e3, e4, e5, e6, e7, e8, e9, e10, e11⟩)
    (first
    | (go_at_call 261; refine (HBR.out _).mono ?_; rintro e w3 ⟨rfl, hb0⟩; have e0 := below_cell hb0 e0; have e1 := below_cell hb0 e1; have e2 := below_cell hb0 e2; have e3 := below_cell hb0 e3; have e4 := below_cell hb0 e4; have e5 := below_cell hb0 e5; have e6 := below_cell hb0 e6; have e7 := below_cell hb0 e7; have e8 := below_cell hb0 e8; have e9 := below_cell hb0 e9; have e10 := below_cell hb0 e10; have e11 := below_cell hb0 e11; have hB3 : Below b w w3 := (by first | exact hB2.trans (hb0.mono (by rw [← hgb.out]; exact hB2.size)) | exact hB2.drew.trans (hb0.mono (by rw [← hgb.out]; exact hB2.size)))))
  all_goals
    go_wp2
    go_ret
    exact ⟨rfl, hgb.out ▸ (by first | exact hB3 | exact hB3.drew)⟩
end Go.Proofs.YtgemjjpmoejgdaaGreat
/- A handle's cell; whether it is armed; arms of quiet calls. -/
namespace Go.Proofs.YtgemjjpmoejgdaaGreat
open Go.RowKit
set_option maxRecDepth 100000
set_option linter.unusedVariables false

theorem word_StateW (gen time status : Int) (w : World) (h0 : gen < 9223372036854775808) (h1 : time < 9223372036854775808) (h2 : status < 9223372036854775808) :
    Calls Tryz.prog 165 #[.agg #[.int .i64 gen, .int .i64 time, .int .i64 status]] w fun e w' => ∃ e2 : Int, e = .returned (.tuple #[.int .u64 (stateWord gen time status : Nat), .int .i64 e2]) ∧ Below w.heap.size w w' :=
  (word_State gen time status w h0 h1 h2).mono fun _ _ h => ⟨_, h⟩
theorem part_hi_lt (x : Nat) : part x 32 32 < 4294967296 := by have h := part_lt x 32 32; simpa using h
theorem part_mid_lt (x : Nat) : part x 2 30 < 1073741824 := by have h := part_lt x 2 30; simpa using h
section
variable {E : G}
end
set_option maxHeartbeats 1000000 in
theorem chg_armed (x : Nat) (n g : Int) (w : World) (hx : x < 18446744073709551616) :
    Calls Tryz.prog 164 #[.int .u64 x, .agg #[.int .i64 n, .int .i64 g]] w fun e w' => e = .returned (.bool (armedW x g)) ∧ Below w.heap.size w w' := by
  have HSO := Go.Lib.hid (fun w => of_StateOf x w hx)
  unfold armedW
  generalize part x 32 32 = gn at *
  generalize part x 2 30 = tm at *
  generalize part x 0 2 = sm at *
  have hb0 : Below w.heap.size w (w.alloc (.cells #[.int .i64 n, .int .i64 g] 46)) := (Below.refl _ _).alloc (Nat.le_refl _) _
  have e1 : (w.alloc (.cells #[.int .i64 n, .int .i64 g] 46)).cell? ⟨w.heap.size, 1, none⟩ = some (.int .i64 g) := by go_simp
  have HD : Hid (decide (sm = 1 ∧ (gn : Int) = g) = if sm = 1 then decide ((gn : Int) = g) else false) := by
    refine Go.Lib.hid ?_
    by_cases h : sm = 1
    · rw [if_pos h]; exact decide_eq_decide.2 ⟨fun q => q.2, fun q => ⟨h, q⟩⟩
    · rw [if_neg h]; exact decide_eq_false fun q => h q.1
  rw [HD.out]
  by_cases hs : sm = 1
  · have d1 : ((sm : Int) == 1) = true := by simp; omega
    rw [if_pos hs]
    subst hs
    go_enter Tryz.func164, Tryz.ntmps164
    go_wp2_with fail
    generalize (w.alloc (.cells #[.int .i64 n, .int .i64 g] 46)) = W at *
    refine (HSO.out _).mono ?_
    rintro e w1 ⟨rfl, hb⟩
    have q1 := below_cell hb e1
    have hb1 : Below w1.heap.size w1 (w1.alloc (.cells #[.int .i64 gn, .int .i64 tm, .int .i64 1] 105)) := (Below.refl _ _).alloc (Nat.le_refl _) _
    have q2 := below_cell hb1 q1
    have hb2 := hb.trans (hb1.mono hb.size)
    have HB := Go.Lib.hid (hb0.trans (hb2.mono hb0.size))
    clear hb hb0 hb1 hb2 e1 HD HSO
    go_wp2
    go_ret
    exact ⟨by first | rfl | simp, HB.out⟩
  · have d1 : ((sm : Int) == 1) = false := by simp; omega
    rw [if_neg hs]
    have hsn : ((sm : Int) = 1) = False := by simp; omega
    have hsn2 : (sm = 1) = False := by simp; exact hs
    clear hs
    go_enter Tryz.func164, Tryz.ntmps164
    go_wp2_with fail
    generalize (w.alloc (.cells #[.int .i64 n, .int .i64 g] 46)) = W at *
    refine (HSO.out _).mono ?_
    rintro e w1 ⟨rfl, hb⟩
    have q1 := below_cell hb e1
    have hb1 : Below w1.heap.size w1 (w1.alloc (.cells #[.int .i64 gn, .int .i64 tm, .int .i64 sm] 105)) := (Below.refl _ _).alloc (Nat.le_refl _) _
    have hb2 := hb.trans (hb1.mono hb.size)
    have HB := Go.Lib.hid (hb0.trans (hb2.mono hb0.size))
    clear hb hb0 hb1 hb2 e1 HD HSO
    go_wp2
    go_ret
    exact ⟨by first | rfl | simp, HB.out⟩
set_option maxHeartbeats 1000000 in
theorem chg_at {E : G} {L : Lab} {S : St} {w : World} (hg : Good E L S w) (n g : Int) :
    Calls Tryz.prog 161 #[.pointer (some ⟨E.k, 0, none⟩), .agg #[.int .i64 n, .int .i64 g]] w fun e w' => e = .returned (.int .i64 (E.cf.state n)) ∧ Below w.heap.size w w' := by
  have henv := Env.nil L w
  have HD := Go.Lib.hid (Did.refl 0 L w)
  have HG := Go.Lib.hid hg
  have HE := Go.Lib.hid henv
  clear hg henv
  have hb0 : Below w.heap.size w (w.alloc (.cells #[.int .i64 n, .int .i64 g] 46)) := ((Below.refl _ _).alloc (Nat.le_refl _) _)
  have HE0 : Hid (Env L (w.alloc (.cells #[.int .i64 n, .int .i64 g] 46)) [(w.heap.size, [.int .i64 n, .int .i64 g])]) := Go.Lib.hid (Env.alloc_at HE.out (fun b hb => HG.out.new b (by first | exact hb | (simp at hb; omega))) [.int .i64 n, .int .i64 g] 46 (b := w.heap.size) (by first | rfl | (simp; done) | (simp; omega)))
  replace HG := Go.Lib.hid (HG.out.below hb0)
  replace HE := Go.Lib.hid (HE0.out)
  replace HD := Go.Lib.hid (HD.out.trans (below_did hb0 0 L))
  have HBL := Go.Lib.hid hb0
  clear hb0 HE0
  have q0_0 : (w.alloc (.cells #[.int .i64 n, .int .i64 g] 46)).cell? ⟨w.heap.size, 0, none⟩ = some (.int .i64 n) := HE.out.cell 0 0 rfl rfl
  have q0_1 : (w.alloc (.cells #[.int .i64 n, .int .i64 g] 46)).cell? ⟨w.heap.size, 1, none⟩ = some (.int .i64 g) := HE.out.cell 0 1 rfl rfl
  go_enter Tryz.func161, Tryz.ntmps161
  go_wp2
  generalize (w.alloc (.cells #[.int .i64 n, .int .i64 g] 46)) = w0 at *
  have HPL := Go.Lib.hid (arm_plan HG.out)
  have q0_0' : ∀ d os, (Sort.grow (redrawn w0 d) os).cell? ⟨w.heap.size, 0, none⟩ = some (.int .i64 n) := fun d os => cell_regrown q0_0 d os
  have q0_1' : ∀ d os, (Sort.grow (redrawn w0 d) os).cell? ⟨w.heap.size, 1, none⟩ = some (.int .i64 g) := fun d os => cell_regrown q0_1 d os
  refine wp_region_below_tail 4 (by kernel_rfl) (by kernel_rfl) ?_
  simp only [List.take_succ_cons, List.take_zero, List.drop_succ_cons, List.drop_zero]
  repeat (go_big_quiet_step (first
    | (go_at_call 47; rename_i p; exact Calls.regrown_of (HPL.out _ (below_regrown w0 p.d p.os)))))
  refine wpQuiet_nil ?_
  intro w1 hw'
  obtain ⟨p, rfl⟩ := hw'
  have hb := below_regrown w0 p.d p.os
  clear q0_0' q0_1' q0_0 q0_1
  generalize Sort.grow (redrawn w0 p.d) p.os = w1 at *
  replace HG := Go.Lib.hid (HG.out.below hb)
  replace HE := Go.Lib.hid (HE.out.ext (below_ext hb 0 L))
  replace HD := Go.Lib.hid (HD.out.trans (below_did hb 0 L))
  replace HBL := Go.Lib.hid (HBL.out.trans (hb.mono HBL.out.size))
  clear hb
  have q0_0 : w1.cell? ⟨w.heap.size, 0, none⟩ = some (.int .i64 n) := HE.out.cell 0 0 rfl rfl
  have q0_1 : w1.cell? ⟨w.heap.size, 1, none⟩ = some (.int .i64 g) := HE.out.cell 0 1 rfl rfl
  have HSA := Go.Lib.hid (plan_State HG.out.ok E.p n _ HG.out.pl)
  go_wp2_with fail
  refine HSA.out.mono ?_
  intro e w9 hqt
  obtain ⟨rfl, hb⟩ := hqt.below
  replace HBL := Go.Lib.hid (HBL.out.trans (hb.mono HBL.out.size))
  clear hqt
  go_wp2
  go_ret
  exact ⟨rfl, HBL.out⟩
theorem arm_at {E : G} {L : Lab} {w : World} {S : St} (hg : Good E L S w) (n g : Int) : ∀ W, Below w.heap.size w W → Calls Tryz.prog 161 #[.pointer (some ⟨E.k, 0, none⟩), .agg #[.int .i64 n, .int .i64 g]] W fun e w' => e = .returned (.int .i64 (E.cf.state n)) ∧ Below W.heap.size W w' :=
  fun W hW => chg_at (hg.below hW) n g
end Go.Proofs.YtgemjjpmoejgdaaGreat
