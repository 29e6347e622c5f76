/- A configuration that may not be: no plan. -/
import Derived.Test.YtdemhabgaimnmaaGreatDoorJsti
namespace Go.Proofs.YtdemhabgaimnmaaGreatDoor
open Go.RowKit
set_option maxRecDepth 100000
set_option linter.unusedVariables false

theorem okI_of {x : Nat → Int} (h : ∀ j, j < 13 → (loOf j : Int) ≤ x j ∧ x j ≤ (hiOf j : Int)) : okI x := by
  intro i hi
  have h1 := h i hi
  match i, hi, h1 with
  | 0, _, h1 => exact h1
  | 1, _, h1 => exact h1
  | 2, _, h1 => exact h1
  | 3, _, h1 => exact h1
  | 4, _, h1 => exact h1
  | 5, _, h1 => exact h1
  | 6, _, h1 => exact h1
  | 7, _, h1 => exact h1
  | 8, _, h1 => exact h1
  | 9, _, h1 => exact h1
  | 10, _, h1 => exact h1
  | 11, _, h1 => exact h1
  | 12, _, h1 => exact h1
set_option maxHeartbeats 1000000 in
theorem plan_listX (x : Nat → Int) (w : World) :
    Calls Tryz.prog 39 #[.agg #[.int .i64 (x 0), .int .i64 (x 1), .int .i64 (x 2), .int .i64 (x 3), .int .i64 (x 4), .int .i64 (x 5), .int .i64 (x 6), .int .i64 (x 7), .int .i64 (x 8), .int .i64 (x 9), .int .i64 (x 10), .int .i64 (x 11), .int .i64 (x 12)]] w fun e w' => e = .returned (.agg #[.int .i64 (x 0), .int .i64 (x 1), .int .i64 (x 2), .int .i64 (x 3), .int .i64 (x 4), .int .i64 (x 5), .int .i64 (x 6), .int .i64 (x 7), .int .i64 (x 8), .int .i64 (x 9), .int .i64 (x 10), .int .i64 (x 11), .int .i64 (x 12)]) ∧ Below w.heap.size w w' := by
  go_enter Tryz.func39, Tryz.ntmps39
  go_wp2
  refine bodyPost_ret (v := .agg #[.int .i64 (x 0), .int .i64 (x 1), .int .i64 (x 2), .int .i64 (x 3), .int .i64 (x 4), .int .i64 (x 5), .int .i64 (x 6), .int .i64 (x 7), .int .i64 (x 8), .int .i64 (x 9), .int .i64 (x 10), .int .i64 (x 11), .int .i64 (x 12)]) (by simp [results, Tryz.results39, go_sem]) rfl ⟨rfl, ?_⟩
  exact ((Below.refl _ _).alloc (Nat.le_refl _) _).alloc (by simp) _

theorem index_x (x : Nat → Int) (w : World) : ∀ k, k < 13 → (Instr.index 22 (.agg #[.int .i64 (x 0), .int .i64 (x 1), .int .i64 (x 2), .int .i64 (x 3), .int .i64 (x 4), .int .i64 (x 5), .int .i64 (x 6), .int .i64 (x 7), .int .i64 (x 8), .int .i64 (x 9), .int .i64 (x 10), .int .i64 (x 11), .int .i64 (x 12)]) (.int .i64 (k : Nat))).run Tryz.prog w = .ok (.int .i64 (x k)) w
  | 0, _ => by kernel_rfl
  | 1, _ => by kernel_rfl
  | 2, _ => by kernel_rfl
  | 3, _ => by kernel_rfl
  | 4, _ => by kernel_rfl
  | 5, _ => by kernel_rfl
  | 6, _ => by kernel_rfl
  | 7, _ => by kernel_rfl
  | 8, _ => by kernel_rfl
  | 9, _ => by kernel_rfl
  | 10, _ => by kernel_rfl
  | 11, _ => by kernel_rfl
  | 12, _ => by kernel_rfl
  | k + 13, h => absurd h (by omega)


set_option maxHeartbeats 1000000 in
theorem plan_check_no (x : Nat → Int) (hno : ¬ okI x) (w : World) :
    Calls Tryz.prog 24 #[.agg #[.int .i64 (x 0), .int .i64 (x 1), .int .i64 (x 2), .int .i64 (x 3), .int .i64 (x 4), .int .i64 (x 5), .int .i64 (x 6), .int .i64 (x 7), .int .i64 (x 8), .int .i64 (x 9), .int .i64 (x 10), .int .i64 (x 11), .int .i64 (x 12)]] w fun e w' => ∃ k : Int, e = .returned (.tuple #[.int .i64 k, .int .i64 7]) ∧ Below w.heap.size w w' := by
  have HO := Go.Lib.hid hno
  have HL := Go.Lib.hid (plan_listX x)
  have HI := Go.Lib.hid (index_x x)
  clear hno
  go_enter Tryz.func24, Tryz.ntmps24
  have hth : ((w.alloc (.cells #[.int .i64 (x 0), .int .i64 (x 1), .int .i64 (x 2), .int .i64 (x 3), .int .i64 (x 4), .int .i64 (x 5), .int .i64 (x 6), .int .i64 (x 7), .int .i64 (x 8), .int .i64 (x 9), .int .i64 (x 10), .int .i64 (x 11), .int .i64 (x 12)] 29)).alloc (.cells #[.int .i64 0, .int .i64 0, .int .i64 0, .int .i64 0, .int .i64 0, .int .i64 0, .int .i64 0, .int .i64 0, .int .i64 0, .int .i64 0, .int .i64 0, .int .i64 0, .int .i64 0, .int .i64 0, .int .i64 0, .int .i64 0, .int .i64 0, .int .i64 0, .int .i64 0, .int .i64 0, .int .i64 0, .int .i64 0, .int .i64 0, .int .i64 0, .int .i64 0, .int .i64 0] 99)).there (w.heap.size + 1) 0 26 := by
    have h := there_alloc_new (w.alloc (.cells #[.int .i64 (x 0), .int .i64 (x 1), .int .i64 (x 2), .int .i64 (x 3), .int .i64 (x 4), .int .i64 (x 5), .int .i64 (x 6), .int .i64 (x 7), .int .i64 (x 8), .int .i64 (x 9), .int .i64 (x 10), .int .i64 (x 11), .int .i64 (x 12)] 29)) #[.int .i64 0, .int .i64 0, .int .i64 0, .int .i64 0, .int .i64 0, .int .i64 0, .int .i64 0, .int .i64 0, .int .i64 0, .int .i64 0, .int .i64 0, .int .i64 0, .int .i64 0, .int .i64 0, .int .i64 0, .int .i64 0, .int .i64 0, .int .i64 0, .int .i64 0, .int .i64 0, .int .i64 0, .int .i64 0, .int .i64 0, .int .i64 0, .int .i64 0, .int .i64 0] 99 26 rfl
    simpa using h
  have HTH := Go.Lib.hid hth
  clear hth
  go_wp2_with (first
    | (refine wpList_value (o := ⟨some 20, _, _, _, _, _⟩) rfl (.agg spanVals.toArray) (by kernel_rfl) ?_)
    | (refine wpList_store_mid (op := ⟨none, .store 99 _ _, _, _, _, _⟩) rfl 99 (.tmp 4) (.tmp 20) rfl (w.heap.size + 1) 0 spanVals.toArray rfl rfl HTH.out (by kernel_rfl) (by kernel_rfl) ?_; refine Hid.out ?_))
  have hbW : Below w.heap.size w (((w.alloc (.cells #[.int .i64 (x 0), .int .i64 (x 1), .int .i64 (x 2), .int .i64 (x 3), .int .i64 (x 4), .int .i64 (x 5), .int .i64 (x 6), .int .i64 (x 7), .int .i64 (x 8), .int .i64 (x 9), .int .i64 (x 10), .int .i64 (x 11), .int .i64 (x 12)] 29)).alloc (.cells #[.int .i64 0, .int .i64 0, .int .i64 0, .int .i64 0, .int .i64 0, .int .i64 0, .int .i64 0, .int .i64 0, .int .i64 0, .int .i64 0, .int .i64 0, .int .i64 0, .int .i64 0, .int .i64 0, .int .i64 0, .int .i64 0, .int .i64 0, .int .i64 0, .int .i64 0, .int .i64 0, .int .i64 0, .int .i64 0, .int .i64 0, .int .i64 0, .int .i64 0, .int .i64 0] 99)).setCells (w.heap.size + 1) 0 spanVals) := below_setCells _ (by omega) _ _ _ (((Below.refl _ w).alloc (Nat.le_refl _) _).alloc (by simp) _)
  have hr : (((w.alloc (.cells #[.int .i64 (x 0), .int .i64 (x 1), .int .i64 (x 2), .int .i64 (x 3), .int .i64 (x 4), .int .i64 (x 5), .int .i64 (x 6), .int .i64 (x 7), .int .i64 (x 8), .int .i64 (x 9), .int .i64 (x 10), .int .i64 (x 11), .int .i64 (x 12)] 29)).alloc (.cells #[.int .i64 0, .int .i64 0, .int .i64 0, .int .i64 0, .int .i64 0, .int .i64 0, .int .i64 0, .int .i64 0, .int .i64 0, .int .i64 0, .int .i64 0, .int .i64 0, .int .i64 0, .int .i64 0, .int .i64 0, .int .i64 0, .int .i64 0, .int .i64 0, .int .i64 0, .int .i64 0, .int .i64 0, .int .i64 0, .int .i64 0, .int .i64 0, .int .i64 0, .int .i64 0] 99)).setCells (w.heap.size + 1) 0 spanVals).rangeAt (w.heap.size + 1) 0 spanVals := World.rangeAt_setCells_same _ _ _ _ HTH.out
  have hsz : (((w.alloc (.cells #[.int .i64 (x 0), .int .i64 (x 1), .int .i64 (x 2), .int .i64 (x 3), .int .i64 (x 4), .int .i64 (x 5), .int .i64 (x 6), .int .i64 (x 7), .int .i64 (x 8), .int .i64 (x 9), .int .i64 (x 10), .int .i64 (x 11), .int .i64 (x 12)] 29)).alloc (.cells #[.int .i64 0, .int .i64 0, .int .i64 0, .int .i64 0, .int .i64 0, .int .i64 0, .int .i64 0, .int .i64 0, .int .i64 0, .int .i64 0, .int .i64 0, .int .i64 0, .int .i64 0, .int .i64 0, .int .i64 0, .int .i64 0, .int .i64 0, .int .i64 0, .int .i64 0, .int .i64 0, .int .i64 0, .int .i64 0, .int .i64 0, .int .i64 0, .int .i64 0, .int .i64 0] 99)).setCells (w.heap.size + 1) 0 spanVals).heap.size = w.heap.size + 1 + 1 := by rw [size_setCells]; simp
  have hcv : ∀ o, (((w.alloc (.cells #[.int .i64 (x 0), .int .i64 (x 1), .int .i64 (x 2), .int .i64 (x 3), .int .i64 (x 4), .int .i64 (x 5), .int .i64 (x 6), .int .i64 (x 7), .int .i64 (x 8), .int .i64 (x 9), .int .i64 (x 10), .int .i64 (x 11), .int .i64 (x 12)] 29)).alloc (.cells #[.int .i64 0, .int .i64 0, .int .i64 0, .int .i64 0, .int .i64 0, .int .i64 0, .int .i64 0, .int .i64 0, .int .i64 0, .int .i64 0, .int .i64 0, .int .i64 0, .int .i64 0, .int .i64 0, .int .i64 0, .int .i64 0, .int .i64 0, .int .i64 0, .int .i64 0, .int .i64 0, .int .i64 0, .int .i64 0, .int .i64 0, .int .i64 0, .int .i64 0, .int .i64 0] 99)).setCells (w.heap.size + 1) 0 spanVals).cell? ⟨w.heap.size, o, none⟩ = ((w.alloc (.cells #[.int .i64 (x 0), .int .i64 (x 1), .int .i64 (x 2), .int .i64 (x 3), .int .i64 (x 4), .int .i64 (x 5), .int .i64 (x 6), .int .i64 (x 7), .int .i64 (x 8), .int .i64 (x 9), .int .i64 (x 10), .int .i64 (x 11), .int .i64 (x 12)] 29)).alloc (.cells #[.int .i64 0, .int .i64 0, .int .i64 0, .int .i64 0, .int .i64 0, .int .i64 0, .int .i64 0, .int .i64 0, .int .i64 0, .int .i64 0, .int .i64 0, .int .i64 0, .int .i64 0, .int .i64 0, .int .i64 0, .int .i64 0, .int .i64 0, .int .i64 0, .int .i64 0, .int .i64 0, .int .i64 0, .int .i64 0, .int .i64 0, .int .i64 0, .int .i64 0, .int .i64 0] 99)).cell? ⟨w.heap.size, o, none⟩ := fun o => World.cell?_setCells_out _ _ _ _ _ (by intro h; simp at h)
  have q0 : (((w.alloc (.cells #[.int .i64 (x 0), .int .i64 (x 1), .int .i64 (x 2), .int .i64 (x 3), .int .i64 (x 4), .int .i64 (x 5), .int .i64 (x 6), .int .i64 (x 7), .int .i64 (x 8), .int .i64 (x 9), .int .i64 (x 10), .int .i64 (x 11), .int .i64 (x 12)] 29)).alloc (.cells #[.int .i64 0, .int .i64 0, .int .i64 0, .int .i64 0, .int .i64 0, .int .i64 0, .int .i64 0, .int .i64 0, .int .i64 0, .int .i64 0, .int .i64 0, .int .i64 0, .int .i64 0, .int .i64 0, .int .i64 0, .int .i64 0, .int .i64 0, .int .i64 0, .int .i64 0, .int .i64 0, .int .i64 0, .int .i64 0, .int .i64 0, .int .i64 0, .int .i64 0, .int .i64 0] 99)).setCells (w.heap.size + 1) 0 spanVals).cell? ⟨w.heap.size, 0, none⟩ = some (.int .i64 (x 0)) := by rw [hcv]; go_simp
  have q1 : (((w.alloc (.cells #[.int .i64 (x 0), .int .i64 (x 1), .int .i64 (x 2), .int .i64 (x 3), .int .i64 (x 4), .int .i64 (x 5), .int .i64 (x 6), .int .i64 (x 7), .int .i64 (x 8), .int .i64 (x 9), .int .i64 (x 10), .int .i64 (x 11), .int .i64 (x 12)] 29)).alloc (.cells #[.int .i64 0, .int .i64 0, .int .i64 0, .int .i64 0, .int .i64 0, .int .i64 0, .int .i64 0, .int .i64 0, .int .i64 0, .int .i64 0, .int .i64 0, .int .i64 0, .int .i64 0, .int .i64 0, .int .i64 0, .int .i64 0, .int .i64 0, .int .i64 0, .int .i64 0, .int .i64 0, .int .i64 0, .int .i64 0, .int .i64 0, .int .i64 0, .int .i64 0, .int .i64 0] 99)).setCells (w.heap.size + 1) 0 spanVals).cell? ⟨w.heap.size, 1, none⟩ = some (.int .i64 (x 1)) := by rw [hcv]; go_simp
  have q2 : (((w.alloc (.cells #[.int .i64 (x 0), .int .i64 (x 1), .int .i64 (x 2), .int .i64 (x 3), .int .i64 (x 4), .int .i64 (x 5), .int .i64 (x 6), .int .i64 (x 7), .int .i64 (x 8), .int .i64 (x 9), .int .i64 (x 10), .int .i64 (x 11), .int .i64 (x 12)] 29)).alloc (.cells #[.int .i64 0, .int .i64 0, .int .i64 0, .int .i64 0, .int .i64 0, .int .i64 0, .int .i64 0, .int .i64 0, .int .i64 0, .int .i64 0, .int .i64 0, .int .i64 0, .int .i64 0, .int .i64 0, .int .i64 0, .int .i64 0, .int .i64 0, .int .i64 0, .int .i64 0, .int .i64 0, .int .i64 0, .int .i64 0, .int .i64 0, .int .i64 0, .int .i64 0, .int .i64 0] 99)).setCells (w.heap.size + 1) 0 spanVals).cell? ⟨w.heap.size, 2, none⟩ = some (.int .i64 (x 2)) := by rw [hcv]; go_simp
  have q3 : (((w.alloc (.cells #[.int .i64 (x 0), .int .i64 (x 1), .int .i64 (x 2), .int .i64 (x 3), .int .i64 (x 4), .int .i64 (x 5), .int .i64 (x 6), .int .i64 (x 7), .int .i64 (x 8), .int .i64 (x 9), .int .i64 (x 10), .int .i64 (x 11), .int .i64 (x 12)] 29)).alloc (.cells #[.int .i64 0, .int .i64 0, .int .i64 0, .int .i64 0, .int .i64 0, .int .i64 0, .int .i64 0, .int .i64 0, .int .i64 0, .int .i64 0, .int .i64 0, .int .i64 0, .int .i64 0, .int .i64 0, .int .i64 0, .int .i64 0, .int .i64 0, .int .i64 0, .int .i64 0, .int .i64 0, .int .i64 0, .int .i64 0, .int .i64 0, .int .i64 0, .int .i64 0, .int .i64 0] 99)).setCells (w.heap.size + 1) 0 spanVals).cell? ⟨w.heap.size, 3, none⟩ = some (.int .i64 (x 3)) := by rw [hcv]; go_simp
  have q4 : (((w.alloc (.cells #[.int .i64 (x 0), .int .i64 (x 1), .int .i64 (x 2), .int .i64 (x 3), .int .i64 (x 4), .int .i64 (x 5), .int .i64 (x 6), .int .i64 (x 7), .int .i64 (x 8), .int .i64 (x 9), .int .i64 (x 10), .int .i64 (x 11), .int .i64 (x 12)] 29)).alloc (.cells #[.int .i64 0, .int .i64 0, .int .i64 0, .int .i64 0, .int .i64 0, .int .i64 0, .int .i64 0, .int .i64 0, .int .i64 0, .int .i64 0, .int .i64 0, .int .i64 0, .int .i64 0, .int .i64 0, .int .i64 0, .int .i64 0, .int .i64 0, .int .i64 0, .int .i64 0, .int .i64 0, .int .i64 0, .int .i64 0, .int .i64 0, .int .i64 0, .int .i64 0, .int .i64 0] 99)).setCells (w.heap.size + 1) 0 spanVals).cell? ⟨w.heap.size, 4, none⟩ = some (.int .i64 (x 4)) := by rw [hcv]; go_simp
  have q5 : (((w.alloc (.cells #[.int .i64 (x 0), .int .i64 (x 1), .int .i64 (x 2), .int .i64 (x 3), .int .i64 (x 4), .int .i64 (x 5), .int .i64 (x 6), .int .i64 (x 7), .int .i64 (x 8), .int .i64 (x 9), .int .i64 (x 10), .int .i64 (x 11), .int .i64 (x 12)] 29)).alloc (.cells #[.int .i64 0, .int .i64 0, .int .i64 0, .int .i64 0, .int .i64 0, .int .i64 0, .int .i64 0, .int .i64 0, .int .i64 0, .int .i64 0, .int .i64 0, .int .i64 0, .int .i64 0, .int .i64 0, .int .i64 0, .int .i64 0, .int .i64 0, .int .i64 0, .int .i64 0, .int .i64 0, .int .i64 0, .int .i64 0, .int .i64 0, .int .i64 0, .int .i64 0, .int .i64 0] 99)).setCells (w.heap.size + 1) 0 spanVals).cell? ⟨w.heap.size, 5, none⟩ = some (.int .i64 (x 5)) := by rw [hcv]; go_simp
  have q6 : (((w.alloc (.cells #[.int .i64 (x 0), .int .i64 (x 1), .int .i64 (x 2), .int .i64 (x 3), .int .i64 (x 4), .int .i64 (x 5), .int .i64 (x 6), .int .i64 (x 7), .int .i64 (x 8), .int .i64 (x 9), .int .i64 (x 10), .int .i64 (x 11), .int .i64 (x 12)] 29)).alloc (.cells #[.int .i64 0, .int .i64 0, .int .i64 0, .int .i64 0, .int .i64 0, .int .i64 0, .int .i64 0, .int .i64 0, .int .i64 0, .int .i64 0, .int .i64 0, .int .i64 0, .int .i64 0, .int .i64 0, .int .i64 0, .int .i64 0, .int .i64 0, .int .i64 0, .int .i64 0, .int .i64 0, .int .i64 0, .int .i64 0, .int .i64 0, .int .i64 0, .int .i64 0, .int .i64 0] 99)).setCells (w.heap.size + 1) 0 spanVals).cell? ⟨w.heap.size, 6, none⟩ = some (.int .i64 (x 6)) := by rw [hcv]; go_simp
  have q7 : (((w.alloc (.cells #[.int .i64 (x 0), .int .i64 (x 1), .int .i64 (x 2), .int .i64 (x 3), .int .i64 (x 4), .int .i64 (x 5), .int .i64 (x 6), .int .i64 (x 7), .int .i64 (x 8), .int .i64 (x 9), .int .i64 (x 10), .int .i64 (x 11), .int .i64 (x 12)] 29)).alloc (.cells #[.int .i64 0, .int .i64 0, .int .i64 0, .int .i64 0, .int .i64 0, .int .i64 0, .int .i64 0, .int .i64 0, .int .i64 0, .int .i64 0, .int .i64 0, .int .i64 0, .int .i64 0, .int .i64 0, .int .i64 0, .int .i64 0, .int .i64 0, .int .i64 0, .int .i64 0, .int .i64 0, .int .i64 0, .int .i64 0, .int .i64 0, .int .i64 0, .int .i64 0, .int .i64 0] 99)).setCells (w.heap.size + 1) 0 spanVals).cell? ⟨w.heap.size, 7, none⟩ = some (.int .i64 (x 7)) := by rw [hcv]; go_simp
  have q8 : (((w.alloc (.cells #[.int .i64 (x 0), .int .i64 (x 1), .int .i64 (x 2), .int .i64 (x 3), .int .i64 (x 4), .int .i64 (x 5), .int .i64 (x 6), .int .i64 (x 7), .int .i64 (x 8), .int .i64 (x 9), .int .i64 (x 10), .int .i64 (x 11), .int .i64 (x 12)] 29)).alloc (.cells #[.int .i64 0, .int .i64 0, .int .i64 0, .int .i64 0, .int .i64 0, .int .i64 0, .int .i64 0, .int .i64 0, .int .i64 0, .int .i64 0, .int .i64 0, .int .i64 0, .int .i64 0, .int .i64 0, .int .i64 0, .int .i64 0, .int .i64 0, .int .i64 0, .int .i64 0, .int .i64 0, .int .i64 0, .int .i64 0, .int .i64 0, .int .i64 0, .int .i64 0, .int .i64 0] 99)).setCells (w.heap.size + 1) 0 spanVals).cell? ⟨w.heap.size, 8, none⟩ = some (.int .i64 (x 8)) := by rw [hcv]; go_simp
  have q9 : (((w.alloc (.cells #[.int .i64 (x 0), .int .i64 (x 1), .int .i64 (x 2), .int .i64 (x 3), .int .i64 (x 4), .int .i64 (x 5), .int .i64 (x 6), .int .i64 (x 7), .int .i64 (x 8), .int .i64 (x 9), .int .i64 (x 10), .int .i64 (x 11), .int .i64 (x 12)] 29)).alloc (.cells #[.int .i64 0, .int .i64 0, .int .i64 0, .int .i64 0, .int .i64 0, .int .i64 0, .int .i64 0, .int .i64 0, .int .i64 0, .int .i64 0, .int .i64 0, .int .i64 0, .int .i64 0, .int .i64 0, .int .i64 0, .int .i64 0, .int .i64 0, .int .i64 0, .int .i64 0, .int .i64 0, .int .i64 0, .int .i64 0, .int .i64 0, .int .i64 0, .int .i64 0, .int .i64 0] 99)).setCells (w.heap.size + 1) 0 spanVals).cell? ⟨w.heap.size, 9, none⟩ = some (.int .i64 (x 9)) := by rw [hcv]; go_simp
  have q10 : (((w.alloc (.cells #[.int .i64 (x 0), .int .i64 (x 1), .int .i64 (x 2), .int .i64 (x 3), .int .i64 (x 4), .int .i64 (x 5), .int .i64 (x 6), .int .i64 (x 7), .int .i64 (x 8), .int .i64 (x 9), .int .i64 (x 10), .int .i64 (x 11), .int .i64 (x 12)] 29)).alloc (.cells #[.int .i64 0, .int .i64 0, .int .i64 0, .int .i64 0, .int .i64 0, .int .i64 0, .int .i64 0, .int .i64 0, .int .i64 0, .int .i64 0, .int .i64 0, .int .i64 0, .int .i64 0, .int .i64 0, .int .i64 0, .int .i64 0, .int .i64 0, .int .i64 0, .int .i64 0, .int .i64 0, .int .i64 0, .int .i64 0, .int .i64 0, .int .i64 0, .int .i64 0, .int .i64 0] 99)).setCells (w.heap.size + 1) 0 spanVals).cell? ⟨w.heap.size, 10, none⟩ = some (.int .i64 (x 10)) := by rw [hcv]; go_simp
  have q11 : (((w.alloc (.cells #[.int .i64 (x 0), .int .i64 (x 1), .int .i64 (x 2), .int .i64 (x 3), .int .i64 (x 4), .int .i64 (x 5), .int .i64 (x 6), .int .i64 (x 7), .int .i64 (x 8), .int .i64 (x 9), .int .i64 (x 10), .int .i64 (x 11), .int .i64 (x 12)] 29)).alloc (.cells #[.int .i64 0, .int .i64 0, .int .i64 0, .int .i64 0, .int .i64 0, .int .i64 0, .int .i64 0, .int .i64 0, .int .i64 0, .int .i64 0, .int .i64 0, .int .i64 0, .int .i64 0, .int .i64 0, .int .i64 0, .int .i64 0, .int .i64 0, .int .i64 0, .int .i64 0, .int .i64 0, .int .i64 0, .int .i64 0, .int .i64 0, .int .i64 0, .int .i64 0, .int .i64 0] 99)).setCells (w.heap.size + 1) 0 spanVals).cell? ⟨w.heap.size, 11, none⟩ = some (.int .i64 (x 11)) := by rw [hcv]; go_simp
  have q12 : (((w.alloc (.cells #[.int .i64 (x 0), .int .i64 (x 1), .int .i64 (x 2), .int .i64 (x 3), .int .i64 (x 4), .int .i64 (x 5), .int .i64 (x 6), .int .i64 (x 7), .int .i64 (x 8), .int .i64 (x 9), .int .i64 (x 10), .int .i64 (x 11), .int .i64 (x 12)] 29)).alloc (.cells #[.int .i64 0, .int .i64 0, .int .i64 0, .int .i64 0, .int .i64 0, .int .i64 0, .int .i64 0, .int .i64 0, .int .i64 0, .int .i64 0, .int .i64 0, .int .i64 0, .int .i64 0, .int .i64 0, .int .i64 0, .int .i64 0, .int .i64 0, .int .i64 0, .int .i64 0, .int .i64 0, .int .i64 0, .int .i64 0, .int .i64 0, .int .i64 0, .int .i64 0, .int .i64 0] 99)).setCells (w.heap.size + 1) 0 spanVals).cell? ⟨w.heap.size, 12, none⟩ = some (.int .i64 (x 12)) := by rw [hcv]; go_simp
  generalize hW : World.setCells ((w.alloc (.cells #[.int .i64 (x 0), .int .i64 (x 1), .int .i64 (x 2), .int .i64 (x 3), .int .i64 (x 4), .int .i64 (x 5), .int .i64 (x 6), .int .i64 (x 7), .int .i64 (x 8), .int .i64 (x 9), .int .i64 (x 10), .int .i64 (x 11), .int .i64 (x 12)] 29)).alloc (.cells #[.int .i64 0, .int .i64 0, .int .i64 0, .int .i64 0, .int .i64 0, .int .i64 0, .int .i64 0, .int .i64 0, .int .i64 0, .int .i64 0, .int .i64 0, .int .i64 0, .int .i64 0, .int .i64 0, .int .i64 0, .int .i64 0, .int .i64 0, .int .i64 0, .int .i64 0, .int .i64 0, .int .i64 0, .int .i64 0, .int .i64 0, .int .i64 0, .int .i64 0, .int .i64 0] 99)) (w.heap.size + 1) 0 spanVals = W at hbW hr hsz hcv q0 q1 q2 q3 q4 q5 q6 q7 q8 q9 q10 q11 q12 ⊢
  clear hW hcv HTH
  unfold Hid
  go_wp2_with fail
  refine (HL.out _).mono ?_
  rintro e w1 ⟨rfl, hb⟩
  have HLO : Hid (∀ k, k < 13 → w1.cell? ⟨w.heap.size + 1, k * 2, none⟩ = some (.int .i64 (loOf k : Nat))) := fun k hk => below_cell hb (by have := hr (k * 2) _ (spanVals_lo k hk); rwa [Nat.zero_add] at this)
  have HHI : Hid (∀ k, k < 13 → w1.cell? ⟨w.heap.size + 1, k * 2 + 1, none⟩ = some (.int .i64 (hiOf k : Nat))) := fun k hk => below_cell hb (by have := hr (k * 2 + 1) _ (spanVals_hi k hk); rwa [Nat.zero_add] at this)
  have HB := Go.Lib.hid (hbW.trans (hb.mono (by omega)))
  clear hb hbW hr hsz q0 q1 q2 q3 q4 q5 q6 q7 q8 q9 q10 q11 q12
  go_wp2
  go_loop [23] (fun i => ∃ k : Nat, k ≤ 13 ∧ i = .int .i64 k ∧ ∀ j, j < k → (loOf j : Int) ≤ x j ∧ x j ≤ (hiOf j : Int)) (fun i => 13 - (intOf i).toNat)
  case atStart => exact ⟨0, by omega, rfl, fun j hj => absurd hj (Nat.not_lt_zero _)⟩
  case round =>
    obtain ⟨k, hk, rfl, hall⟩ := hrel
    have HALL := Go.Lib.hid hall
    clear hall
    by_cases hlt : k < 13
    · have e1 := HLO.out k hlt
      have e2 := HHI.out k hlt
      have e3 := HI.out w1 k hlt
      by_cases b1 : (loOf k : Int) ≤ x k
      · by_cases b2 : x k ≤ (hiOf k : Int)
        · have HK : Hid ((loOf k : Int) ≤ x k ∧ x k ≤ (hiOf k : Int)) := ⟨b1, b2⟩
          generalize hxk : x k = xk at *
          have HXK := Go.Lib.hid hxk
          generalize hlk : loOf k = lo at *
          have HLK := Go.Lib.hid hlk
          generalize hhk : hiOf k = hi at *
          have HHK := Go.Lib.hid hhk
          clear hxk hlk hhk
          go_wp2
          refine ⟨⟨k + 1, by omega, by go_num, fun j hj => ?_⟩, by simp [intOf]; omega⟩
          by_cases e : j = k
          · subst e; rw [HXK.out, HLK.out, HHK.out]; exact HK.out
          · exact HALL.out j (by omega)
        · generalize x k = xk at *
          generalize loOf k = lo at *
          generalize hiOf k = hi at *
          clear HALL HO
          go_wp2
          go_ret2
          exact ⟨⟨_, rfl⟩, HB.out⟩
      · generalize x k = xk at *
        generalize loOf k = lo at *
        generalize hiOf k = hi at *
        clear HALL HO
        go_wp2
        go_ret2
        exact ⟨⟨_, rfl⟩, HB.out⟩
    · obtain rfl : k = 13 := by omega
      exact absurd (okI_of HALL.out) HO.out

end Go.Proofs.YtdemhabgaimnmaaGreatDoor
