/- The Points of Cancels, Rearms and Migrates are right. -/
import Derived.Test.YtgemjjpmoejgdaaGreatHsp
namespace Go.Proofs.YtgemjjpmoejgdaaGreat
open Go.RowKit
set_option maxRecDepth 100000
set_option linter.unusedVariables false

set_option maxHeartbeats 2000000 in
theorem migrate0_fields (wk hn hg : Int) (hw : 0 ≤ wk) (w : World) :
    Calls Tryz.prog 259 #[.agg #[.int .i64 3, .int .i64 wk, .int .i64 4, .int .i64 hn, .int .i64 hg, .int .i64 0, .int .i64 0, .int .i64 0, .int .i64 0, .int .i64 0, .bool false, .int .i64 0]] w fun e w' => e = .returned (.tuple #[.int .i64 65, .bool true]) ∧ Below w.heap.size w w' := by
  go_enter Tryz.func259, Tryz.ntmps259
  go_wp2
  go_ret2
  exact ⟨rfl, ((Below.refl _ _).alloc (Nat.le_refl _) _).alloc (by simp) _⟩
set_option maxHeartbeats 2000000 in
theorem migrate0_bare (wk hn hg : Int) (hw : 0 ≤ wk) (w : World) :
    Calls Tryz.prog 261 #[.agg #[.int .i64 3, .int .i64 wk, .int .i64 4, .int .i64 hn, .int .i64 hg, .int .i64 0, .int .i64 0, .int .i64 0, .int .i64 0, .int .i64 0, .bool false, .int .i64 0], .int .i64 65] w fun e w' => e = .returned (.agg #[.int .i64 3, .int .i64 wk, .int .i64 4, .int .i64 0, .int .i64 0, .int .i64 0, .int .i64 0, .int .i64 0, .int .i64 0, .int .i64 0, .bool false, .int .i64 0]) ∧ Below w.heap.size w w' := by
  go_enter Tryz.func261, Tryz.ntmps261
  go_wp2
  refine wp_loop_rounds 4 ?_
  rw [rounds_succ]
  go_wp2
  rw [rounds_succ]
  go_wp2
  rw [rounds_succ]
  go_wp2
  rw [rounds_succ]
  go_wp2
  refine bodyPost_ret (v := .agg #[.int .i64 3, .int .i64 wk, .int .i64 4, .int .i64 0, .int .i64 0, .int .i64 0, .int .i64 0, .int .i64 0, .int .i64 0, .int .i64 0, .bool false, .int .i64 0]) (by simp [results, Tryz.results261, go_sem]) rfl ⟨rfl, ?_⟩
  repeat (first | exact Below.refl _ _ | refine Below.setCell ?_ (by simp) _ | refine Below.alloc ?_ (by simp; omega) _ | refine Below.alloc ?_ (by simp) _ | refine Below.drew ?_)
set_option maxHeartbeats 2000000 in
theorem migrate0_counted (wk hn hg : Int) (hw : 0 ≤ wk) (w : World) :
    Calls Tryz.prog 260 #[.agg #[.int .i64 3, .int .i64 wk, .int .i64 4, .int .i64 hn, .int .i64 hg, .int .i64 0, .int .i64 0, .int .i64 0, .int .i64 0, .int .i64 0, .bool false, .int .i64 0]] w fun e w' => e = .returned (.bool true) ∧ Below w.heap.size w w' := by
  have hm : ∀ (ts : Array TypeId) (t : TypeId) (w : World), Sem.run Tryz.prog (Builtin.min_ ts t #[.int .i64 0, .int .i64 0, .int .i64 0, .int .i64 0]) w = .ok (.int .i64 0) w := fun ts t w => run_min4 _ ts t 0 0 (by decide) (by decide) w
  go_enter Tryz.func260, Tryz.ntmps260
  go_wp2
  go_ret
  exact ⟨by first | rfl | (simp; done) | (simp; omega), (Below.refl _ _).alloc (Nat.le_refl _) _⟩
set_option maxHeartbeats 4000000 in
theorem migrate0_right (wk hn hg : Int) (hw : 0 ≤ wk) (w : World) :
    Calls Tryz.prog 235 #[.agg #[.int .i64 3, .int .i64 wk, .int .i64 4, .int .i64 hn, .int .i64 hg, .int .i64 0, .int .i64 0, .int .i64 0, .int .i64 0, .int .i64 0, .bool false, .int .i64 0]] w fun e w' => e = .returned (.bool true) ∧ Below w.heap.size w w' := by
  have e0 : (w.alloc (.cells #[.int .i64 3, .int .i64 wk, .int .i64 4, .int .i64 hn, .int .i64 hg, .int .i64 0, .int .i64 0, .int .i64 0, .int .i64 0, .int .i64 0, .bool false, .int .i64 0] 101)).cell? ⟨w.heap.size, 0, none⟩ = some (.int .i64 3) := by go_simp
  have e1 : (w.alloc (.cells #[.int .i64 3, .int .i64 wk, .int .i64 4, .int .i64 hn, .int .i64 hg, .int .i64 0, .int .i64 0, .int .i64 0, .int .i64 0, .int .i64 0, .bool false, .int .i64 0] 101)).cell? ⟨w.heap.size, 1, none⟩ = some (.int .i64 wk) := by go_simp
  have e2 : (w.alloc (.cells #[.int .i64 3, .int .i64 wk, .int .i64 4, .int .i64 hn, .int .i64 hg, .int .i64 0, .int .i64 0, .int .i64 0, .int .i64 0, .int .i64 0, .bool false, .int .i64 0] 101)).cell? ⟨w.heap.size, 2, none⟩ = some (.int .i64 4) := by go_simp
  have e3 : (w.alloc (.cells #[.int .i64 3, .int .i64 wk, .int .i64 4, .int .i64 hn, .int .i64 hg, .int .i64 0, .int .i64 0, .int .i64 0, .int .i64 0, .int .i64 0, .bool false, .int .i64 0] 101)).cell? ⟨w.heap.size, 3, none⟩ = some (.int .i64 hn) := by go_simp
  have e4 : (w.alloc (.cells #[.int .i64 3, .int .i64 wk, .int .i64 4, .int .i64 hn, .int .i64 hg, .int .i64 0, .int .i64 0, .int .i64 0, .int .i64 0, .int .i64 0, .bool false, .int .i64 0] 101)).cell? ⟨w.heap.size, 4, none⟩ = some (.int .i64 hg) := by go_simp
  have e5 : (w.alloc (.cells #[.int .i64 3, .int .i64 wk, .int .i64 4, .int .i64 hn, .int .i64 hg, .int .i64 0, .int .i64 0, .int .i64 0, .int .i64 0, .int .i64 0, .bool false, .int .i64 0] 101)).cell? ⟨w.heap.size, 5, none⟩ = some (.int .i64 0) := by go_simp
  have e6 : (w.alloc (.cells #[.int .i64 3, .int .i64 wk, .int .i64 4, .int .i64 hn, .int .i64 hg, .int .i64 0, .int .i64 0, .int .i64 0, .int .i64 0, .int .i64 0, .bool false, .int .i64 0] 101)).cell? ⟨w.heap.size, 6, none⟩ = some (.int .i64 0) := by go_simp
  have e7 : (w.alloc (.cells #[.int .i64 3, .int .i64 wk, .int .i64 4, .int .i64 hn, .int .i64 hg, .int .i64 0, .int .i64 0, .int .i64 0, .int .i64 0, .int .i64 0, .bool false, .int .i64 0] 101)).cell? ⟨w.heap.size, 7, none⟩ = some (.int .i64 0) := by go_simp
  have e8 : (w.alloc (.cells #[.int .i64 3, .int .i64 wk, .int .i64 4, .int .i64 hn, .int .i64 hg, .int .i64 0, .int .i64 0, .int .i64 0, .int .i64 0, .int .i64 0, .bool false, .int .i64 0] 101)).cell? ⟨w.heap.size, 8, none⟩ = some (.int .i64 0) := by go_simp
  have e9 : (w.alloc (.cells #[.int .i64 3, .int .i64 wk, .int .i64 4, .int .i64 hn, .int .i64 hg, .int .i64 0, .int .i64 0, .int .i64 0, .int .i64 0, .int .i64 0, .bool false, .int .i64 0] 101)).cell? ⟨w.heap.size, 9, none⟩ = some (.int .i64 0) := by go_simp
  have e10 : (w.alloc (.cells #[.int .i64 3, .int .i64 wk, .int .i64 4, .int .i64 hn, .int .i64 hg, .int .i64 0, .int .i64 0, .int .i64 0, .int .i64 0, .int .i64 0, .bool false, .int .i64 0] 101)).cell? ⟨w.heap.size, 10, none⟩ = some (.bool false) := by go_simp
  have e11 : (w.alloc (.cells #[.int .i64 3, .int .i64 wk, .int .i64 4, .int .i64 hn, .int .i64 hg, .int .i64 0, .int .i64 0, .int .i64 0, .int .i64 0, .int .i64 0, .bool false, .int .i64 0] 101)).cell? ⟨w.heap.size, 11, none⟩ = some (.int .i64 0) := by go_simp
  have hB : Below w.heap.size w (w.alloc (.cells #[.int .i64 3, .int .i64 wk, .int .i64 4, .int .i64 hn, .int .i64 hg, .int .i64 0, .int .i64 0, .int .i64 0, .int .i64 0, .int .i64 0, .bool false, .int .i64 0] 101)) := (Below.refl _ _).alloc (Nat.le_refl _) _
  have HF := Go.Lib.hid (migrate0_fields wk hn hg hw)
  have HC := Go.Lib.hid (migrate0_counted wk hn hg hw)
  have HBR := Go.Lib.hid (migrate0_bare wk hn hg hw)
  have hd1 : decide (wk < 0) = false := by simp; omega
  go_enter Tryz.func235, Tryz.ntmps235
  go_wp2_with fail
  generalize (w.alloc (.cells #[.int .i64 3, .int .i64 wk, .int .i64 4, .int .i64 hn, .int .i64 hg, .int .i64 0, .int .i64 0, .int .i64 0, .int .i64 0, .int .i64 0, .bool false, .int .i64 0] 101)) = W at *
  generalize hgb : w.heap.size = b at *
  replace hgb := Go.Lib.hid hgb
  refine (HF.out _).mono ?_
  rintro e w1 ⟨rfl, hb⟩
  have e0 := below_cell hb e0
  have e1 := below_cell hb e1
  have e2 := below_cell hb e2
  have e3 := below_cell hb e3
  have e4 := below_cell hb e4
  have e5 := below_cell hb e5
  have e6 := below_cell hb e6
  have e7 := below_cell hb e7
  have e8 := below_cell hb e8
  have e9 := below_cell hb e9
  have e10 := below_cell hb e10
  have e11 := below_cell hb e11
  have hB1 := hB.trans (hb.mono (by rw [← hgb.out]; exact hB.size))
  clear hb hB
  go_wp2_with fail
  refine (HC.out _).mono ?_
  rintro e w2 ⟨rfl, hb⟩
  have e0 := below_cell hb e0
  have e1 := below_cell hb e1
  have e2 := below_cell hb e2
  have e3 := below_cell hb e3
  have e4 := below_cell hb e4
  have e5 := below_cell hb e5
  have e6 := below_cell hb e6
  have e7 := below_cell hb e7
  have e8 := below_cell hb e8
  have e9 := below_cell hb e9
  have e10 := below_cell hb e10
  have e11 := below_cell hb e11
  have hB2 := hB1.trans (hb.mono (by rw [← hgb.out]; exact hB1.size))
  clear hb hB1
  go_wp2
  go_region_held3 (fun w' => w'.cell? ⟨b, 0, none⟩ = some (.int .i64 3) ∧ w'.cell? ⟨b, 1, none⟩ = some (.int .i64 wk) ∧ w'.cell? ⟨b, 2, none⟩ = some (.int .i64 4) ∧ w'.cell? ⟨b, 3, none⟩ = some (.int .i64 hn) ∧ w'.cell? ⟨b, 4, none⟩ = some (.int .i64 hg) ∧ w'.cell? ⟨b, 5, none⟩ = some (.int .i64 0) ∧ w'.cell? ⟨b, 6, none⟩ = some (.int .i64 0) ∧ w'.cell? ⟨b, 7, none⟩ = some (.int .i64 0) ∧ w'.cell? ⟨b, 8, none⟩ = some (.int .i64 0) ∧ w'.cell? ⟨b, 9, none⟩ = some (.int .i64 0) ∧ w'.cell? ⟨b, 10, none⟩ = some (.bool false) ∧ w'.cell? ⟨b, 11, none⟩ = some (.int .i64 0))
    (first | exact ⟨e0, e1, e2, e3, e4, e5, e6, e7, e8, e9, e10, e11⟩)
    (first
    | (go_at_call 261; refine (HBR.out _).mono ?_; rintro e w3 ⟨rfl, hb0⟩; have e0 := below_cell hb0 e0; have e1 := below_cell hb0 e1; have e2 := below_cell hb0 e2; have e3 := below_cell hb0 e3; have e4 := below_cell hb0 e4; have e5 := below_cell hb0 e5; have e6 := below_cell hb0 e6; have e7 := below_cell hb0 e7; have e8 := below_cell hb0 e8; have e9 := below_cell hb0 e9; have e10 := below_cell hb0 e10; have e11 := below_cell hb0 e11; have hB3 : Below b w w3 := (by first | exact hB2.trans (hb0.mono (by rw [← hgb.out]; exact hB2.size)) | exact hB2.drew.trans (hb0.mono (by rw [← hgb.out]; exact hB2.size)))))
  all_goals
    go_wp2
    go_ret
    exact ⟨rfl, hgb.out ▸ (by first | exact hB3 | exact hB3.drew)⟩
set_option maxHeartbeats 2000000 in
theorem migrateE_fields (wk hn hg er : Int) (hw : 0 ≤ wk) (he : 0 < er) (w : World) :
    Calls Tryz.prog 259 #[.agg #[.int .i64 3, .int .i64 wk, .int .i64 4, .int .i64 hn, .int .i64 hg, .int .i64 0, .int .i64 0, .int .i64 0, .int .i64 0, .int .i64 0, .bool false, .int .i64 er]] w fun e w' => e = .returned (.tuple #[.int .i64 65, .bool true]) ∧ Below w.heap.size w w' := by
  have hq : (er != 0) = true := by simp; omega
  go_enter Tryz.func259, Tryz.ntmps259
  go_wp2
  go_ret2
  exact ⟨rfl, ((Below.refl _ _).alloc (Nat.le_refl _) _).alloc (by simp) _⟩
set_option maxHeartbeats 2000000 in
theorem migrateE_bare (wk hn hg er : Int) (hw : 0 ≤ wk) (he : 0 < er) (w : World) :
    Calls Tryz.prog 261 #[.agg #[.int .i64 3, .int .i64 wk, .int .i64 4, .int .i64 hn, .int .i64 hg, .int .i64 0, .int .i64 0, .int .i64 0, .int .i64 0, .int .i64 0, .bool false, .int .i64 er], .int .i64 65] w fun e w' => e = .returned (.agg #[.int .i64 3, .int .i64 wk, .int .i64 4, .int .i64 0, .int .i64 0, .int .i64 0, .int .i64 0, .int .i64 0, .int .i64 0, .int .i64 0, .bool false, .int .i64 0]) ∧ Below w.heap.size w w' := by
  go_enter Tryz.func261, Tryz.ntmps261
  go_wp2
  refine wp_loop_rounds 4 ?_
  rw [rounds_succ]
  go_wp2
  rw [rounds_succ]
  go_wp2
  rw [rounds_succ]
  go_wp2
  rw [rounds_succ]
  go_wp2
  refine bodyPost_ret (v := .agg #[.int .i64 3, .int .i64 wk, .int .i64 4, .int .i64 0, .int .i64 0, .int .i64 0, .int .i64 0, .int .i64 0, .int .i64 0, .int .i64 0, .bool false, .int .i64 0]) (by simp [results, Tryz.results261, go_sem]) rfl ⟨rfl, ?_⟩
  repeat (first | exact Below.refl _ _ | refine Below.setCell ?_ (by simp) _ | refine Below.alloc ?_ (by simp; omega) _ | refine Below.alloc ?_ (by simp) _ | refine Below.drew ?_)
set_option maxHeartbeats 2000000 in
theorem migrateE_counted (wk hn hg er : Int) (hw : 0 ≤ wk) (he : 0 < er) (w : World) :
    Calls Tryz.prog 260 #[.agg #[.int .i64 3, .int .i64 wk, .int .i64 4, .int .i64 hn, .int .i64 hg, .int .i64 0, .int .i64 0, .int .i64 0, .int .i64 0, .int .i64 0, .bool false, .int .i64 er]] w fun e w' => e = .returned (.bool true) ∧ Below w.heap.size w w' := by
  have hm : ∀ (ts : Array TypeId) (t : TypeId) (w : World), Sem.run Tryz.prog (Builtin.min_ ts t #[.int .i64 0, .int .i64 0, .int .i64 0, .int .i64 0]) w = .ok (.int .i64 0) w := fun ts t w => run_min4 _ ts t 0 0 (by decide) (by decide) w
  go_enter Tryz.func260, Tryz.ntmps260
  go_wp2
  go_ret
  exact ⟨by first | rfl | (simp; done) | (simp; omega), (Below.refl _ _).alloc (Nat.le_refl _) _⟩
set_option maxHeartbeats 4000000 in
theorem migrateE_right (wk hn hg er : Int) (hw : 0 ≤ wk) (he : 0 < er) (w : World) :
    Calls Tryz.prog 235 #[.agg #[.int .i64 3, .int .i64 wk, .int .i64 4, .int .i64 hn, .int .i64 hg, .int .i64 0, .int .i64 0, .int .i64 0, .int .i64 0, .int .i64 0, .bool false, .int .i64 er]] w fun e w' => e = .returned (.bool true) ∧ Below w.heap.size w w' := by
  have e0 : (w.alloc (.cells #[.int .i64 3, .int .i64 wk, .int .i64 4, .int .i64 hn, .int .i64 hg, .int .i64 0, .int .i64 0, .int .i64 0, .int .i64 0, .int .i64 0, .bool false, .int .i64 er] 101)).cell? ⟨w.heap.size, 0, none⟩ = some (.int .i64 3) := by go_simp
  have e1 : (w.alloc (.cells #[.int .i64 3, .int .i64 wk, .int .i64 4, .int .i64 hn, .int .i64 hg, .int .i64 0, .int .i64 0, .int .i64 0, .int .i64 0, .int .i64 0, .bool false, .int .i64 er] 101)).cell? ⟨w.heap.size, 1, none⟩ = some (.int .i64 wk) := by go_simp
  have e2 : (w.alloc (.cells #[.int .i64 3, .int .i64 wk, .int .i64 4, .int .i64 hn, .int .i64 hg, .int .i64 0, .int .i64 0, .int .i64 0, .int .i64 0, .int .i64 0, .bool false, .int .i64 er] 101)).cell? ⟨w.heap.size, 2, none⟩ = some (.int .i64 4) := by go_simp
  have e3 : (w.alloc (.cells #[.int .i64 3, .int .i64 wk, .int .i64 4, .int .i64 hn, .int .i64 hg, .int .i64 0, .int .i64 0, .int .i64 0, .int .i64 0, .int .i64 0, .bool false, .int .i64 er] 101)).cell? ⟨w.heap.size, 3, none⟩ = some (.int .i64 hn) := by go_simp
  have e4 : (w.alloc (.cells #[.int .i64 3, .int .i64 wk, .int .i64 4, .int .i64 hn, .int .i64 hg, .int .i64 0, .int .i64 0, .int .i64 0, .int .i64 0, .int .i64 0, .bool false, .int .i64 er] 101)).cell? ⟨w.heap.size, 4, none⟩ = some (.int .i64 hg) := by go_simp
  have e5 : (w.alloc (.cells #[.int .i64 3, .int .i64 wk, .int .i64 4, .int .i64 hn, .int .i64 hg, .int .i64 0, .int .i64 0, .int .i64 0, .int .i64 0, .int .i64 0, .bool false, .int .i64 er] 101)).cell? ⟨w.heap.size, 5, none⟩ = some (.int .i64 0) := by go_simp
  have e6 : (w.alloc (.cells #[.int .i64 3, .int .i64 wk, .int .i64 4, .int .i64 hn, .int .i64 hg, .int .i64 0, .int .i64 0, .int .i64 0, .int .i64 0, .int .i64 0, .bool false, .int .i64 er] 101)).cell? ⟨w.heap.size, 6, none⟩ = some (.int .i64 0) := by go_simp
  have e7 : (w.alloc (.cells #[.int .i64 3, .int .i64 wk, .int .i64 4, .int .i64 hn, .int .i64 hg, .int .i64 0, .int .i64 0, .int .i64 0, .int .i64 0, .int .i64 0, .bool false, .int .i64 er] 101)).cell? ⟨w.heap.size, 7, none⟩ = some (.int .i64 0) := by go_simp
  have e8 : (w.alloc (.cells #[.int .i64 3, .int .i64 wk, .int .i64 4, .int .i64 hn, .int .i64 hg, .int .i64 0, .int .i64 0, .int .i64 0, .int .i64 0, .int .i64 0, .bool false, .int .i64 er] 101)).cell? ⟨w.heap.size, 8, none⟩ = some (.int .i64 0) := by go_simp
  have e9 : (w.alloc (.cells #[.int .i64 3, .int .i64 wk, .int .i64 4, .int .i64 hn, .int .i64 hg, .int .i64 0, .int .i64 0, .int .i64 0, .int .i64 0, .int .i64 0, .bool false, .int .i64 er] 101)).cell? ⟨w.heap.size, 9, none⟩ = some (.int .i64 0) := by go_simp
  have e10 : (w.alloc (.cells #[.int .i64 3, .int .i64 wk, .int .i64 4, .int .i64 hn, .int .i64 hg, .int .i64 0, .int .i64 0, .int .i64 0, .int .i64 0, .int .i64 0, .bool false, .int .i64 er] 101)).cell? ⟨w.heap.size, 10, none⟩ = some (.bool false) := by go_simp
  have e11 : (w.alloc (.cells #[.int .i64 3, .int .i64 wk, .int .i64 4, .int .i64 hn, .int .i64 hg, .int .i64 0, .int .i64 0, .int .i64 0, .int .i64 0, .int .i64 0, .bool false, .int .i64 er] 101)).cell? ⟨w.heap.size, 11, none⟩ = some (.int .i64 er) := by go_simp
  have hB : Below w.heap.size w (w.alloc (.cells #[.int .i64 3, .int .i64 wk, .int .i64 4, .int .i64 hn, .int .i64 hg, .int .i64 0, .int .i64 0, .int .i64 0, .int .i64 0, .int .i64 0, .bool false, .int .i64 er] 101)) := (Below.refl _ _).alloc (Nat.le_refl _) _
  have HF := Go.Lib.hid (migrateE_fields wk hn hg er hw he)
  have HC := Go.Lib.hid (migrateE_counted wk hn hg er hw he)
  have HBR := Go.Lib.hid (migrateE_bare wk hn hg er hw he)
  have hd1 : decide (wk < 0) = false := by simp; omega
  have hd2 : decide (er < 0) = false := by simp; omega
  go_enter Tryz.func235, Tryz.ntmps235
  go_wp2_with fail
  generalize (w.alloc (.cells #[.int .i64 3, .int .i64 wk, .int .i64 4, .int .i64 hn, .int .i64 hg, .int .i64 0, .int .i64 0, .int .i64 0, .int .i64 0, .int .i64 0, .bool false, .int .i64 er] 101)) = W at *
  generalize hgb : w.heap.size = b at *
  replace hgb := Go.Lib.hid hgb
  refine (HF.out _).mono ?_
  rintro e w1 ⟨rfl, hb⟩
  have e0 := below_cell hb e0
  have e1 := below_cell hb e1
  have e2 := below_cell hb e2
  have e3 := below_cell hb e3
  have e4 := below_cell hb e4
  have e5 := below_cell hb e5
  have e6 := below_cell hb e6
  have e7 := below_cell hb e7
  have e8 := below_cell hb e8
  have e9 := below_cell hb e9
  have e10 := below_cell hb e10
  have e11 := below_cell hb e11
  have hB1 := hB.trans (hb.mono (by rw [← hgb.out]; exact hB.size))
  clear hb hB
  go_wp2_with fail
  refine (HC.out _).mono ?_
  rintro e w2 ⟨rfl, hb⟩
  have e0 := below_cell hb e0
  have e1 := below_cell hb e1
  have e2 := below_cell hb e2
  have e3 := below_cell hb e3
  have e4 := below_cell hb e4
  have e5 := below_cell hb e5
  have e6 := below_cell hb e6
  have e7 := below_cell hb e7
  have e8 := below_cell hb e8
  have e9 := below_cell hb e9
  have e10 := below_cell hb e10
  have e11 := below_cell hb e11
  have hB2 := hB1.trans (hb.mono (by rw [← hgb.out]; exact hB1.size))
  clear hb hB1
  go_wp2
  go_region_held3 (fun w' => w'.cell? ⟨b, 0, none⟩ = some (.int .i64 3) ∧ w'.cell? ⟨b, 1, none⟩ = some (.int .i64 wk) ∧ w'.cell? ⟨b, 2, none⟩ = some (.int .i64 4) ∧ w'.cell? ⟨b, 3, none⟩ = some (.int .i64 hn) ∧ w'.cell? ⟨b, 4, none⟩ = some (.int .i64 hg) ∧ w'.cell? ⟨b, 5, none⟩ = some (.int .i64 0) ∧ w'.cell? ⟨b, 6, none⟩ = some (.int .i64 0) ∧ w'.cell? ⟨b, 7, none⟩ = some (.int .i64 0) ∧ w'.cell? ⟨b, 8, none⟩ = some (.int .i64 0) ∧ w'.cell? ⟨b, 9, none⟩ = some (.int .i64 0) ∧ w'.cell? ⟨b, 10, none⟩ = some (.bool false) ∧ w'.cell? ⟨b, 11, none⟩ = some (.int .i64 er))
    (first | exact ⟨e0, e1, e2, e3, e4, e5, e6, e7, e8, e9, e10, e11⟩)
    (first
    | (go_at_call 261; refine (HBR.out _).mono ?_; rintro e w3 ⟨rfl, hb0⟩; have e0 := below_cell hb0 e0; have e1 := below_cell hb0 e1; have e2 := below_cell hb0 e2; have e3 := below_cell hb0 e3; have e4 := below_cell hb0 e4; have e5 := below_cell hb0 e5; have e6 := below_cell hb0 e6; have e7 := below_cell hb0 e7; have e8 := below_cell hb0 e8; have e9 := below_cell hb0 e9; have e10 := below_cell hb0 e10; have e11 := below_cell hb0 e11; have hB3 : Below b w w3 := (by first | exact hB2.trans (hb0.mono (by rw [← hgb.out]; exact hB2.size)) | exact hB2.drew.trans (hb0.mono (by rw [← hgb.out]; exact hB2.size)))))
  all_goals
    go_wp2
    go_ret
    exact ⟨rfl, hgb.out ▸ (by first | exact hB3 | exact hB3.drew)⟩
end Go.Proofs.YtgemjjpmoejgdaaGreat
/- A handle's cell; whether it is armed; arms of quiet calls. -/
namespace Go.Proofs.YtgemjjpmoejgdaaGreat
open Go.RowKit
set_option maxRecDepth 100000
set_option linter.unusedVariables false

def isE : Arg → Prop | .e x => 0 ≤ x ∧ x ≤ 100 | _ => False
theorem part_hi_lt (x : Nat) : part x 32 32 < 4294967296 := by have h := part_lt x 32 32; simpa using h
section
variable {E : G}
theorem arm_home {L : Lab} {w : World} {S : St} (hg : Good E L S w) (n : Int) : ∀ W, Below w.heap.size w W → Calls Tryz.prog 48 #[.pointer (some ⟨E.p, 0, none⟩), .int .i64 n] W fun e w' => e = .returned (.int .i64 (E.cf.home n)) ∧ Below W.heap.size W w' :=
  fun W hW => (plan_Home hg.ok E.p n W (hg.below hW).pl).mono fun _ _ h => h.below
end
end Go.Proofs.YtgemjjpmoejgdaaGreat
/- A Cancel, as code. -/
namespace Go.Proofs.YtgemjjpmoejgdaaGreat
open Go.RowKit
set_option maxRecDepth 100000
set_option linter.unusedVariables false

section
variable {ρ : Type} {R0 : ρ → Arg → St → St × Option (K (PR ρ))} {E : G} {t : Nat}
end
end Go.Proofs.YtgemjjpmoejgdaaGreat
/- A Rearm, as code. -/
namespace Go.Proofs.YtgemjjpmoejgdaaGreat
open Go.RowKit
set_option maxRecDepth 100000
set_option linter.unusedVariables false

section
variable {ρ : Type} {R0 : ρ → Arg → St → St × Option (K (PR ρ))} {E : G} {t : Nat}
theorem state_bd {c : Cf} (hok : c.Ok) {n : Int} (h : ¬ c.state n < 0) : 0 ≤ n ∧ n ≤ 4294967294 := by
  have h2 := hok.n2
  by_cases q : 0 ≤ n ∧ n < c.nodes
  · omega
  · exfalso; apply h; unfold Cf.state Cf.node; rw [among_no q]; unfold within; rw [if_pos (by omega)]; omega
end
end Go.Proofs.YtgemjjpmoejgdaaGreat
