/- The document's configurations: the small ones; a core of one. -/
import Derived.Test.YtlbjjooiiikmjaaB
namespace Go.Proofs.Ytlbjjooiiikmjaa
open Go.RowKit
set_option maxRecDepth 100000
set_option linter.unusedVariables false

set_option maxHeartbeats 1000000 in
theorem ref_Right (x : Nat → Int) (w : World) : Calls Try.prog 16 #[.agg #[.int .i64 (x 0), .int .i64 (x 1), .int .i64 (x 2), .int .i64 (x 3), .int .i64 (x 4), .int .i64 (x 5), .int .i64 (x 6), .int .i64 (x 7), .int .i64 (x 8), .int .i64 (x 9), .int .i64 (x 10), .int .i64 (x 11), .int .i64 (x 12)]] w fun e w' => e = .returned (.bool (decide (okI x))) ∧ Below w.heap.size w w' := by
  have hb : Below w.heap.size w (w.alloc (.cells #[.int .i64 (x 0), .int .i64 (x 1), .int .i64 (x 2), .int .i64 (x 3), .int .i64 (x 4), .int .i64 (x 5), .int .i64 (x 6), .int .i64 (x 7), .int .i64 (x 8), .int .i64 (x 9), .int .i64 (x 10), .int .i64 (x 11), .int .i64 (x 12)] 23)) := (Below.refl _ _).alloc (Nat.le_refl _) _
  have HC := Go.Lib.hid (ref_Check x)
  by_cases h : okI x
  · simp only [h, if_true] at HC
    rw [decide_eq_true h]
    clear h
    go_enter Try.func16, Try.ntmps16
    go_wp2_with fail
    refine (HC.out _).mono ?_
    rintro e w' ⟨a, rfl, hb1⟩
    have hb2 := hb.trans (hb1.mono hb.size)
    clear hb1 hb
    go_wp2
    go_ret
    exact ⟨rfl, hb2⟩
  · simp only [h, if_false] at HC
    rw [decide_eq_false h]
    clear h
    go_enter Try.func16, Try.ntmps16
    go_wp2_with fail
    refine (HC.out _).mono ?_
    rintro e w' ⟨a, rfl, hb1⟩
    have hb2 := hb.trans (hb1.mono hb.size)
    clear hb1 hb
    go_wp2
    go_ret
    exact ⟨rfl, hb2⟩
def smallI (x : Nat → Int) : Prop := okI x ∧ x 0 ≤ 6 ∧ x 1 ≤ 6 ∧ x 2 ≤ 4 ∧ x 3 ≤ 12 ∧ x 4 ≤ 30 ∧ x 7 ≤ 8
instance (x : Nat → Int) : Decidable (smallI x) := by unfold smallI; infer_instance
set_option maxHeartbeats 2000000 in
theorem law15_Small (x : Nat → Int) (w : World) : Calls Try.prog 6 #[.agg #[.int .i64 (x 0), .int .i64 (x 1), .int .i64 (x 2), .int .i64 (x 3), .int .i64 (x 4), .int .i64 (x 5), .int .i64 (x 6), .int .i64 (x 7), .int .i64 (x 8), .int .i64 (x 9), .int .i64 (x 10), .int .i64 (x 11), .int .i64 (x 12)]] w fun e w' => e = .returned (.bool (decide (smallI x))) ∧ Below w.heap.size w w' := by
  have hb : Below w.heap.size w (w.alloc (.cells #[.int .i64 (x 0), .int .i64 (x 1), .int .i64 (x 2), .int .i64 (x 3), .int .i64 (x 4), .int .i64 (x 5), .int .i64 (x 6), .int .i64 (x 7), .int .i64 (x 8), .int .i64 (x 9), .int .i64 (x 10), .int .i64 (x 11), .int .i64 (x 12)] 23)) := (Below.refl _ _).alloc (Nat.le_refl _) _
  have e0 : (w.alloc (.cells #[.int .i64 (x 0), .int .i64 (x 1), .int .i64 (x 2), .int .i64 (x 3), .int .i64 (x 4), .int .i64 (x 5), .int .i64 (x 6), .int .i64 (x 7), .int .i64 (x 8), .int .i64 (x 9), .int .i64 (x 10), .int .i64 (x 11), .int .i64 (x 12)] 23)).cell? ⟨w.heap.size, 0, none⟩ = some (.int .i64 (x 0)) := by go_simp
  have e1 : (w.alloc (.cells #[.int .i64 (x 0), .int .i64 (x 1), .int .i64 (x 2), .int .i64 (x 3), .int .i64 (x 4), .int .i64 (x 5), .int .i64 (x 6), .int .i64 (x 7), .int .i64 (x 8), .int .i64 (x 9), .int .i64 (x 10), .int .i64 (x 11), .int .i64 (x 12)] 23)).cell? ⟨w.heap.size, 1, none⟩ = some (.int .i64 (x 1)) := by go_simp
  have e2 : (w.alloc (.cells #[.int .i64 (x 0), .int .i64 (x 1), .int .i64 (x 2), .int .i64 (x 3), .int .i64 (x 4), .int .i64 (x 5), .int .i64 (x 6), .int .i64 (x 7), .int .i64 (x 8), .int .i64 (x 9), .int .i64 (x 10), .int .i64 (x 11), .int .i64 (x 12)] 23)).cell? ⟨w.heap.size, 2, none⟩ = some (.int .i64 (x 2)) := by go_simp
  have e3 : (w.alloc (.cells #[.int .i64 (x 0), .int .i64 (x 1), .int .i64 (x 2), .int .i64 (x 3), .int .i64 (x 4), .int .i64 (x 5), .int .i64 (x 6), .int .i64 (x 7), .int .i64 (x 8), .int .i64 (x 9), .int .i64 (x 10), .int .i64 (x 11), .int .i64 (x 12)] 23)).cell? ⟨w.heap.size, 3, none⟩ = some (.int .i64 (x 3)) := by go_simp
  have e4 : (w.alloc (.cells #[.int .i64 (x 0), .int .i64 (x 1), .int .i64 (x 2), .int .i64 (x 3), .int .i64 (x 4), .int .i64 (x 5), .int .i64 (x 6), .int .i64 (x 7), .int .i64 (x 8), .int .i64 (x 9), .int .i64 (x 10), .int .i64 (x 11), .int .i64 (x 12)] 23)).cell? ⟨w.heap.size, 4, none⟩ = some (.int .i64 (x 4)) := by go_simp
  have e5 : (w.alloc (.cells #[.int .i64 (x 0), .int .i64 (x 1), .int .i64 (x 2), .int .i64 (x 3), .int .i64 (x 4), .int .i64 (x 5), .int .i64 (x 6), .int .i64 (x 7), .int .i64 (x 8), .int .i64 (x 9), .int .i64 (x 10), .int .i64 (x 11), .int .i64 (x 12)] 23)).cell? ⟨w.heap.size, 5, none⟩ = some (.int .i64 (x 5)) := by go_simp
  have e6 : (w.alloc (.cells #[.int .i64 (x 0), .int .i64 (x 1), .int .i64 (x 2), .int .i64 (x 3), .int .i64 (x 4), .int .i64 (x 5), .int .i64 (x 6), .int .i64 (x 7), .int .i64 (x 8), .int .i64 (x 9), .int .i64 (x 10), .int .i64 (x 11), .int .i64 (x 12)] 23)).cell? ⟨w.heap.size, 6, none⟩ = some (.int .i64 (x 6)) := by go_simp
  have e7 : (w.alloc (.cells #[.int .i64 (x 0), .int .i64 (x 1), .int .i64 (x 2), .int .i64 (x 3), .int .i64 (x 4), .int .i64 (x 5), .int .i64 (x 6), .int .i64 (x 7), .int .i64 (x 8), .int .i64 (x 9), .int .i64 (x 10), .int .i64 (x 11), .int .i64 (x 12)] 23)).cell? ⟨w.heap.size, 7, none⟩ = some (.int .i64 (x 7)) := by go_simp
  have e8 : (w.alloc (.cells #[.int .i64 (x 0), .int .i64 (x 1), .int .i64 (x 2), .int .i64 (x 3), .int .i64 (x 4), .int .i64 (x 5), .int .i64 (x 6), .int .i64 (x 7), .int .i64 (x 8), .int .i64 (x 9), .int .i64 (x 10), .int .i64 (x 11), .int .i64 (x 12)] 23)).cell? ⟨w.heap.size, 8, none⟩ = some (.int .i64 (x 8)) := by go_simp
  have e9 : (w.alloc (.cells #[.int .i64 (x 0), .int .i64 (x 1), .int .i64 (x 2), .int .i64 (x 3), .int .i64 (x 4), .int .i64 (x 5), .int .i64 (x 6), .int .i64 (x 7), .int .i64 (x 8), .int .i64 (x 9), .int .i64 (x 10), .int .i64 (x 11), .int .i64 (x 12)] 23)).cell? ⟨w.heap.size, 9, none⟩ = some (.int .i64 (x 9)) := by go_simp
  have e10 : (w.alloc (.cells #[.int .i64 (x 0), .int .i64 (x 1), .int .i64 (x 2), .int .i64 (x 3), .int .i64 (x 4), .int .i64 (x 5), .int .i64 (x 6), .int .i64 (x 7), .int .i64 (x 8), .int .i64 (x 9), .int .i64 (x 10), .int .i64 (x 11), .int .i64 (x 12)] 23)).cell? ⟨w.heap.size, 10, none⟩ = some (.int .i64 (x 10)) := by go_simp
  have e11 : (w.alloc (.cells #[.int .i64 (x 0), .int .i64 (x 1), .int .i64 (x 2), .int .i64 (x 3), .int .i64 (x 4), .int .i64 (x 5), .int .i64 (x 6), .int .i64 (x 7), .int .i64 (x 8), .int .i64 (x 9), .int .i64 (x 10), .int .i64 (x 11), .int .i64 (x 12)] 23)).cell? ⟨w.heap.size, 11, none⟩ = some (.int .i64 (x 11)) := by go_simp
  have e12 : (w.alloc (.cells #[.int .i64 (x 0), .int .i64 (x 1), .int .i64 (x 2), .int .i64 (x 3), .int .i64 (x 4), .int .i64 (x 5), .int .i64 (x 6), .int .i64 (x 7), .int .i64 (x 8), .int .i64 (x 9), .int .i64 (x 10), .int .i64 (x 11), .int .i64 (x 12)] 23)).cell? ⟨w.heap.size, 12, none⟩ = some (.int .i64 (x 12)) := by go_simp
  have HR := Go.Lib.hid (ref_Right x)
  have hsm : decide (smallI x) = ((((((decide (okI x) && decide (x 0 ≤ 6)) && decide (x 1 ≤ 6)) && decide (x 2 ≤ 4)) && decide (x 3 ≤ 12)) && decide (x 4 ≤ 30)) && decide (x 7 ≤ 8)) := by
    rw [Bool.eq_iff_iff]; simp [smallI, and_assoc]; exact decide_eq_true_iff
  rw [hsm]
  clear hsm
  generalize hok : decide (okI x) = ok at *
  replace hok := Go.Lib.hid hok
  go_enter Try.func6, Try.ntmps6
  go_wp2_with fail
  refine (HR.out _).mono ?_
  rintro e w' ⟨rfl, hb1⟩
  have e0 := below_cell hb1 e0
  have e1 := below_cell hb1 e1
  have e2 := below_cell hb1 e2
  have e3 := below_cell hb1 e3
  have e4 := below_cell hb1 e4
  have e5 := below_cell hb1 e5
  have e6 := below_cell hb1 e6
  have e7 := below_cell hb1 e7
  have e8 := below_cell hb1 e8
  have e9 := below_cell hb1 e9
  have e10 := below_cell hb1 e10
  have e11 := below_cell hb1 e11
  have e12 := below_cell hb1 e12
  have hb2 := hb.trans (hb1.mono hb.size)
  clear hb1 hb HR
  cases ok with
  | false =>
    go_wp2
    go_ret
    exact ⟨by simp, hb2⟩
  | true =>
    by_cases d0 : x 0 ≤ 6
    · skip
      by_cases d1 : x 1 ≤ 6
      · skip
        by_cases d2 : x 2 ≤ 4
        · skip
          by_cases d3 : x 3 ≤ 12
          · skip
            by_cases d4 : x 4 ≤ 30
            · skip
              by_cases d5 : x 7 ≤ 8
              · skip
                go_wp2
                go_ret
                exact ⟨by first | (simp [*]; done) | (simp [*]; intros; omega), hb2⟩
              · go_wp2
                go_ret
                exact ⟨by first | (simp [*]; done) | (simp [*]; intros; omega), hb2⟩
            · go_wp2
              go_ret
              exact ⟨by first | (simp [*]; done) | (simp [*]; intros; omega), hb2⟩
          · go_wp2
            go_ret
            exact ⟨by first | (simp [*]; done) | (simp [*]; intros; omega), hb2⟩
        · go_wp2
          go_ret
          exact ⟨by first | (simp [*]; done) | (simp [*]; intros; omega), hb2⟩
      · go_wp2
        go_ret
        exact ⟨by first | (simp [*]; done) | (simp [*]; intros; omega), hb2⟩
    · go_wp2
      go_ret
      exact ⟨by first | (simp [*]; done) | (simp [*]; intros; omega), hb2⟩
end Go.Proofs.Ytlbjjooiiikmjaa

