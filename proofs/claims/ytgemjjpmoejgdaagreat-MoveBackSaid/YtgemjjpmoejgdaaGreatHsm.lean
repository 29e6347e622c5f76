/- The Points of a Start are right: the whole. -/
import Derived.Test.YtgemjjpmoejgdaaGreatHsl
namespace Go.Proofs.YtgemjjpmoejgdaaGreat
open Go.RowKit
set_option maxRecDepth 100000
set_option linter.unusedVariables false

set_option maxHeartbeats 4000000 in
theorem start_right0 (wk n g T : Int) (hw : 0 ≤ wk) (h1 : 0 ≤ n) (h2 : 0 ≤ g) (h3 : 0 ≤ T) (w : World) :
    Calls Tryz.prog 235 #[.agg #[.int .i64 3, .int .i64 wk, .int .i64 1, .int .i64 0, .int .i64 0, .int .i64 n, .int .i64 g, .int .i64 T, .int .i64 0, .int .i64 0, .bool false, .int .i64 0]] w fun e w' => e = .returned (.bool true) ∧ Below w.heap.size w w' := by
  have e0 : (w.alloc (.cells #[.int .i64 3, .int .i64 wk, .int .i64 1, .int .i64 0, .int .i64 0, .int .i64 n, .int .i64 g, .int .i64 T, .int .i64 0, .int .i64 0, .bool false, .int .i64 0] 101)).cell? ⟨w.heap.size, 0, none⟩ = some (.int .i64 3) := by go_simp
  have e1 : (w.alloc (.cells #[.int .i64 3, .int .i64 wk, .int .i64 1, .int .i64 0, .int .i64 0, .int .i64 n, .int .i64 g, .int .i64 T, .int .i64 0, .int .i64 0, .bool false, .int .i64 0] 101)).cell? ⟨w.heap.size, 1, none⟩ = some (.int .i64 wk) := by go_simp
  have e2 : (w.alloc (.cells #[.int .i64 3, .int .i64 wk, .int .i64 1, .int .i64 0, .int .i64 0, .int .i64 n, .int .i64 g, .int .i64 T, .int .i64 0, .int .i64 0, .bool false, .int .i64 0] 101)).cell? ⟨w.heap.size, 2, none⟩ = some (.int .i64 1) := by go_simp
  have e3 : (w.alloc (.cells #[.int .i64 3, .int .i64 wk, .int .i64 1, .int .i64 0, .int .i64 0, .int .i64 n, .int .i64 g, .int .i64 T, .int .i64 0, .int .i64 0, .bool false, .int .i64 0] 101)).cell? ⟨w.heap.size, 3, none⟩ = some (.int .i64 0) := by go_simp
  have e4 : (w.alloc (.cells #[.int .i64 3, .int .i64 wk, .int .i64 1, .int .i64 0, .int .i64 0, .int .i64 n, .int .i64 g, .int .i64 T, .int .i64 0, .int .i64 0, .bool false, .int .i64 0] 101)).cell? ⟨w.heap.size, 4, none⟩ = some (.int .i64 0) := by go_simp
  have e5 : (w.alloc (.cells #[.int .i64 3, .int .i64 wk, .int .i64 1, .int .i64 0, .int .i64 0, .int .i64 n, .int .i64 g, .int .i64 T, .int .i64 0, .int .i64 0, .bool false, .int .i64 0] 101)).cell? ⟨w.heap.size, 5, none⟩ = some (.int .i64 n) := by go_simp
  have e6 : (w.alloc (.cells #[.int .i64 3, .int .i64 wk, .int .i64 1, .int .i64 0, .int .i64 0, .int .i64 n, .int .i64 g, .int .i64 T, .int .i64 0, .int .i64 0, .bool false, .int .i64 0] 101)).cell? ⟨w.heap.size, 6, none⟩ = some (.int .i64 g) := by go_simp
  have e7 : (w.alloc (.cells #[.int .i64 3, .int .i64 wk, .int .i64 1, .int .i64 0, .int .i64 0, .int .i64 n, .int .i64 g, .int .i64 T, .int .i64 0, .int .i64 0, .bool false, .int .i64 0] 101)).cell? ⟨w.heap.size, 7, none⟩ = some (.int .i64 T) := by go_simp
  have e8 : (w.alloc (.cells #[.int .i64 3, .int .i64 wk, .int .i64 1, .int .i64 0, .int .i64 0, .int .i64 n, .int .i64 g, .int .i64 T, .int .i64 0, .int .i64 0, .bool false, .int .i64 0] 101)).cell? ⟨w.heap.size, 8, none⟩ = some (.int .i64 0) := by go_simp
  have e9 : (w.alloc (.cells #[.int .i64 3, .int .i64 wk, .int .i64 1, .int .i64 0, .int .i64 0, .int .i64 n, .int .i64 g, .int .i64 T, .int .i64 0, .int .i64 0, .bool false, .int .i64 0] 101)).cell? ⟨w.heap.size, 9, none⟩ = some (.int .i64 0) := by go_simp
  have e10 : (w.alloc (.cells #[.int .i64 3, .int .i64 wk, .int .i64 1, .int .i64 0, .int .i64 0, .int .i64 n, .int .i64 g, .int .i64 T, .int .i64 0, .int .i64 0, .bool false, .int .i64 0] 101)).cell? ⟨w.heap.size, 10, none⟩ = some (.bool false) := by go_simp
  have e11 : (w.alloc (.cells #[.int .i64 3, .int .i64 wk, .int .i64 1, .int .i64 0, .int .i64 0, .int .i64 n, .int .i64 g, .int .i64 T, .int .i64 0, .int .i64 0, .bool false, .int .i64 0] 101)).cell? ⟨w.heap.size, 11, none⟩ = some (.int .i64 0) := by go_simp
  have hB : Below w.heap.size w (w.alloc (.cells #[.int .i64 3, .int .i64 wk, .int .i64 1, .int .i64 0, .int .i64 0, .int .i64 n, .int .i64 g, .int .i64 T, .int .i64 0, .int .i64 0, .bool false, .int .i64 0] 101)) := (Below.refl _ _).alloc (Nat.le_refl _) _
  have HF := Go.Lib.hid (start_fields0 wk n g T)
  have HC := Go.Lib.hid (start_counted wk n g T 0 h1 h2 h3)
  have HBR := Go.Lib.hid (start_bare0 wk n g T)
  have hd1 : decide (wk < 0) = false := by simp; omega
  go_enter Tryz.func235, Tryz.ntmps235
  go_wp2_with fail
  generalize (w.alloc (.cells #[.int .i64 3, .int .i64 wk, .int .i64 1, .int .i64 0, .int .i64 0, .int .i64 n, .int .i64 g, .int .i64 T, .int .i64 0, .int .i64 0, .bool false, .int .i64 0] 101)) = W at *
  generalize hgb : w.heap.size = b at *
  replace hgb := Go.Lib.hid hgb
  refine (HF.out _).mono ?_
  rintro e w1 ⟨rfl, hb⟩
  have e0 := below_cell hb e0
  have e1 := below_cell hb e1
  have e2 := below_cell hb e2
  have e3 := below_cell hb e3
  have e4 := below_cell hb e4
  have e5 := below_cell hb e5
  have e6 := below_cell hb e6
  have e7 := below_cell hb e7
  have e8 := below_cell hb e8
  have e9 := below_cell hb e9
  have e10 := below_cell hb e10
  have e11 := below_cell hb e11
  have hB1 := hB.trans (hb.mono (by rw [← hgb.out]; exact hB.size))
  clear hb hB
  go_wp2_with fail
  refine (HC.out _).mono ?_
  rintro e w2 ⟨rfl, hb⟩
  have e0 := below_cell hb e0
  have e1 := below_cell hb e1
  have e2 := below_cell hb e2
  have e3 := below_cell hb e3
  have e4 := below_cell hb e4
  have e5 := below_cell hb e5
  have e6 := below_cell hb e6
  have e7 := below_cell hb e7
  have e8 := below_cell hb e8
  have e9 := below_cell hb e9
  have e10 := below_cell hb e10
  have e11 := below_cell hb e11
  have hB2 := hB1.trans (hb.mono (by rw [← hgb.out]; exact hB1.size))
  clear hb hB1
  go_wp2
  go_region_held3 (fun w' => w'.cell? ⟨b, 0, none⟩ = some (.int .i64 3) ∧ w'.cell? ⟨b, 1, none⟩ = some (.int .i64 wk) ∧ w'.cell? ⟨b, 2, none⟩ = some (.int .i64 1) ∧ w'.cell? ⟨b, 3, none⟩ = some (.int .i64 0) ∧ w'.cell? ⟨b, 4, none⟩ = some (.int .i64 0) ∧ w'.cell? ⟨b, 5, none⟩ = some (.int .i64 n) ∧ w'.cell? ⟨b, 6, none⟩ = some (.int .i64 g) ∧ w'.cell? ⟨b, 7, none⟩ = some (.int .i64 T) ∧ w'.cell? ⟨b, 8, none⟩ = some (.int .i64 0) ∧ w'.cell? ⟨b, 9, none⟩ = some (.int .i64 0) ∧ w'.cell? ⟨b, 10, none⟩ = some (.bool false) ∧ w'.cell? ⟨b, 11, none⟩ = some (.int .i64 0))
    (first | exact ⟨e0, e1, e2, e3, e4, e5, e6, e7, e8, e9, e10, e11⟩)
    (first
    | (go_at_call 261; refine (HBR.out _).mono ?_; rintro e w3 ⟨rfl, hb0⟩; have e0 := below_cell hb0 e0; have e1 := below_cell hb0 e1; have e2 := below_cell hb0 e2; have e3 := below_cell hb0 e3; have e4 := below_cell hb0 e4; have e5 := below_cell hb0 e5; have e6 := below_cell hb0 e6; have e7 := below_cell hb0 e7; have e8 := below_cell hb0 e8; have e9 := below_cell hb0 e9; have e10 := below_cell hb0 e10; have e11 := below_cell hb0 e11; have hB3 : Below b w w3 := (by first | exact hB2.trans (hb0.mono (by rw [← hgb.out]; exact hB2.size)) | exact hB2.drew.trans (hb0.mono (by rw [← hgb.out]; exact hB2.size)))))
  all_goals
    go_wp2
    go_ret
    exact ⟨rfl, hgb.out ▸ (by first | exact hB3 | exact hB3.drew)⟩
set_option maxHeartbeats 4000000 in
theorem start_rightE (wk er : Int) (hw : 0 ≤ wk) (he : 0 < er) (w : World) :
    Calls Tryz.prog 235 #[.agg #[.int .i64 3, .int .i64 wk, .int .i64 1, .int .i64 0, .int .i64 0, .int .i64 0, .int .i64 0, .int .i64 0, .int .i64 0, .int .i64 0, .bool false, .int .i64 er]] w fun e w' => e = .returned (.bool true) ∧ Below w.heap.size w w' := by
  have e0 : (w.alloc (.cells #[.int .i64 3, .int .i64 wk, .int .i64 1, .int .i64 0, .int .i64 0, .int .i64 0, .int .i64 0, .int .i64 0, .int .i64 0, .int .i64 0, .bool false, .int .i64 er] 101)).cell? ⟨w.heap.size, 0, none⟩ = some (.int .i64 3) := by go_simp
  have e1 : (w.alloc (.cells #[.int .i64 3, .int .i64 wk, .int .i64 1, .int .i64 0, .int .i64 0, .int .i64 0, .int .i64 0, .int .i64 0, .int .i64 0, .int .i64 0, .bool false, .int .i64 er] 101)).cell? ⟨w.heap.size, 1, none⟩ = some (.int .i64 wk) := by go_simp
  have e2 : (w.alloc (.cells #[.int .i64 3, .int .i64 wk, .int .i64 1, .int .i64 0, .int .i64 0, .int .i64 0, .int .i64 0, .int .i64 0, .int .i64 0, .int .i64 0, .bool false, .int .i64 er] 101)).cell? ⟨w.heap.size, 2, none⟩ = some (.int .i64 1) := by go_simp
  have e3 : (w.alloc (.cells #[.int .i64 3, .int .i64 wk, .int .i64 1, .int .i64 0, .int .i64 0, .int .i64 0, .int .i64 0, .int .i64 0, .int .i64 0, .int .i64 0, .bool false, .int .i64 er] 101)).cell? ⟨w.heap.size, 3, none⟩ = some (.int .i64 0) := by go_simp
  have e4 : (w.alloc (.cells #[.int .i64 3, .int .i64 wk, .int .i64 1, .int .i64 0, .int .i64 0, .int .i64 0, .int .i64 0, .int .i64 0, .int .i64 0, .int .i64 0, .bool false, .int .i64 er] 101)).cell? ⟨w.heap.size, 4, none⟩ = some (.int .i64 0) := by go_simp
  have e5 : (w.alloc (.cells #[.int .i64 3, .int .i64 wk, .int .i64 1, .int .i64 0, .int .i64 0, .int .i64 0, .int .i64 0, .int .i64 0, .int .i64 0, .int .i64 0, .bool false, .int .i64 er] 101)).cell? ⟨w.heap.size, 5, none⟩ = some (.int .i64 0) := by go_simp
  have e6 : (w.alloc (.cells #[.int .i64 3, .int .i64 wk, .int .i64 1, .int .i64 0, .int .i64 0, .int .i64 0, .int .i64 0, .int .i64 0, .int .i64 0, .int .i64 0, .bool false, .int .i64 er] 101)).cell? ⟨w.heap.size, 6, none⟩ = some (.int .i64 0) := by go_simp
  have e7 : (w.alloc (.cells #[.int .i64 3, .int .i64 wk, .int .i64 1, .int .i64 0, .int .i64 0, .int .i64 0, .int .i64 0, .int .i64 0, .int .i64 0, .int .i64 0, .bool false, .int .i64 er] 101)).cell? ⟨w.heap.size, 7, none⟩ = some (.int .i64 0) := by go_simp
  have e8 : (w.alloc (.cells #[.int .i64 3, .int .i64 wk, .int .i64 1, .int .i64 0, .int .i64 0, .int .i64 0, .int .i64 0, .int .i64 0, .int .i64 0, .int .i64 0, .bool false, .int .i64 er] 101)).cell? ⟨w.heap.size, 8, none⟩ = some (.int .i64 0) := by go_simp
  have e9 : (w.alloc (.cells #[.int .i64 3, .int .i64 wk, .int .i64 1, .int .i64 0, .int .i64 0, .int .i64 0, .int .i64 0, .int .i64 0, .int .i64 0, .int .i64 0, .bool false, .int .i64 er] 101)).cell? ⟨w.heap.size, 9, none⟩ = some (.int .i64 0) := by go_simp
  have e10 : (w.alloc (.cells #[.int .i64 3, .int .i64 wk, .int .i64 1, .int .i64 0, .int .i64 0, .int .i64 0, .int .i64 0, .int .i64 0, .int .i64 0, .int .i64 0, .bool false, .int .i64 er] 101)).cell? ⟨w.heap.size, 10, none⟩ = some (.bool false) := by go_simp
  have e11 : (w.alloc (.cells #[.int .i64 3, .int .i64 wk, .int .i64 1, .int .i64 0, .int .i64 0, .int .i64 0, .int .i64 0, .int .i64 0, .int .i64 0, .int .i64 0, .bool false, .int .i64 er] 101)).cell? ⟨w.heap.size, 11, none⟩ = some (.int .i64 er) := by go_simp
  have hB : Below w.heap.size w (w.alloc (.cells #[.int .i64 3, .int .i64 wk, .int .i64 1, .int .i64 0, .int .i64 0, .int .i64 0, .int .i64 0, .int .i64 0, .int .i64 0, .int .i64 0, .bool false, .int .i64 er] 101)) := (Below.refl _ _).alloc (Nat.le_refl _) _
  have HF := Go.Lib.hid (start_fieldsE wk er (by omega))
  have HC := Go.Lib.hid (start_counted wk 0 0 0 er (by omega) (by omega) (by omega))
  have HBR := Go.Lib.hid (start_bareE wk er)
  have hd1 : decide (wk < 0) = false := by simp; omega
  have hd2 : decide (er < 0) = false := by simp; omega
  go_enter Tryz.func235, Tryz.ntmps235
  go_wp2_with fail
  generalize (w.alloc (.cells #[.int .i64 3, .int .i64 wk, .int .i64 1, .int .i64 0, .int .i64 0, .int .i64 0, .int .i64 0, .int .i64 0, .int .i64 0, .int .i64 0, .bool false, .int .i64 er] 101)) = W at *
  generalize hgb : w.heap.size = b at *
  replace hgb := Go.Lib.hid hgb
  refine (HF.out _).mono ?_
  rintro e w1 ⟨rfl, hb⟩
  have e0 := below_cell hb e0
  have e1 := below_cell hb e1
  have e2 := below_cell hb e2
  have e3 := below_cell hb e3
  have e4 := below_cell hb e4
  have e5 := below_cell hb e5
  have e6 := below_cell hb e6
  have e7 := below_cell hb e7
  have e8 := below_cell hb e8
  have e9 := below_cell hb e9
  have e10 := below_cell hb e10
  have e11 := below_cell hb e11
  have hB1 := hB.trans (hb.mono (by rw [← hgb.out]; exact hB.size))
  clear hb hB
  go_wp2_with fail
  refine (HC.out _).mono ?_
  rintro e w2 ⟨rfl, hb⟩
  have e0 := below_cell hb e0
  have e1 := below_cell hb e1
  have e2 := below_cell hb e2
  have e3 := below_cell hb e3
  have e4 := below_cell hb e4
  have e5 := below_cell hb e5
  have e6 := below_cell hb e6
  have e7 := below_cell hb e7
  have e8 := below_cell hb e8
  have e9 := below_cell hb e9
  have e10 := below_cell hb e10
  have e11 := below_cell hb e11
  have hB2 := hB1.trans (hb.mono (by rw [← hgb.out]; exact hB1.size))
  clear hb hB1
  go_wp2
  go_region_held3 (fun w' => w'.cell? ⟨b, 0, none⟩ = some (.int .i64 3) ∧ w'.cell? ⟨b, 1, none⟩ = some (.int .i64 wk) ∧ w'.cell? ⟨b, 2, none⟩ = some (.int .i64 1) ∧ w'.cell? ⟨b, 3, none⟩ = some (.int .i64 0) ∧ w'.cell? ⟨b, 4, none⟩ = some (.int .i64 0) ∧ w'.cell? ⟨b, 5, none⟩ = some (.int .i64 0) ∧ w'.cell? ⟨b, 6, none⟩ = some (.int .i64 0) ∧ w'.cell? ⟨b, 7, none⟩ = some (.int .i64 0) ∧ w'.cell? ⟨b, 8, none⟩ = some (.int .i64 0) ∧ w'.cell? ⟨b, 9, none⟩ = some (.int .i64 0) ∧ w'.cell? ⟨b, 10, none⟩ = some (.bool false) ∧ w'.cell? ⟨b, 11, none⟩ = some (.int .i64 er))
    (first | exact ⟨e0, e1, e2, e3, e4, e5, e6, e7, e8, e9, e10, e11⟩)
    (first
    | (go_at_call 261; refine (HBR.out _).mono ?_; rintro e w3 ⟨rfl, hb0⟩; have e0 := below_cell hb0 e0; have e1 := below_cell hb0 e1; have e2 := below_cell hb0 e2; have e3 := below_cell hb0 e3; have e4 := below_cell hb0 e4; have e5 := below_cell hb0 e5; have e6 := below_cell hb0 e6; have e7 := below_cell hb0 e7; have e8 := below_cell hb0 e8; have e9 := below_cell hb0 e9; have e10 := below_cell hb0 e10; have e11 := below_cell hb0 e11; have hB3 : Below b w w3 := (by first | exact hB2.trans (hb0.mono (by rw [← hgb.out]; exact hB2.size)) | exact hB2.drew.trans (hb0.mono (by rw [← hgb.out]; exact hB2.size)))))
  all_goals
    go_wp2
    go_ret
    exact ⟨rfl, hgb.out ▸ (by first | exact hB3 | exact hB3.drew)⟩
end Go.Proofs.YtgemjjpmoejgdaaGreat
/- What a closure has captured; a step's contract with one count of steps ahead and behind; an event is noted. -/
namespace Go.Proofs.YtgemjjpmoejgdaaGreat
open Go.RowKit
set_option maxRecDepth 100000
set_option linter.unusedVariables false

/-- Blocks that are nobody's, and what they hold. -/
def Env (L : Lab) (w : World) (env : List (Nat × List Value)) : Prop := ∀ p ∈ env, L p.1 = 0 ∧ p.1 < w.heap.size ∧ ∀ i v, p.2[i]? = some v → w.cell? ⟨p.1, i, none⟩ = some v
theorem Env.ext {t : Nat} {L L' : Lab} {w w' : World} {env : List (Nat × List Value)} (h : Env L w env) (hx : Ext t L w L' w') : Env L' w' env := fun p hp =>
  ⟨(hx.lab _ (h p hp).2.1).trans (h p hp).1, Nat.lt_of_lt_of_le (h p hp).2.1 hx.size, fun i v hi => hx.cell0 ((h p hp).2.2 i v hi) (h p hp).1⟩
theorem Env.shr {L L' : Lab} {w w' : World} {env : List (Nat × List Value)} (h : Env L w env) (hx : Shr L w L' w') : Env L' w' env := h.ext (hx.ext 0)
theorem Env.did {t : Nat} {L L' : Lab} {w w' : World} {env : List (Nat × List Value)} (h : Env L w env) (hx : Did t L w L' w') : Env L' w' env := fun p hp =>
  ⟨(hx.lab _ (h p hp).2.1).trans (h p hp).1, Nat.lt_of_lt_of_le (h p hp).2.1 hx.size, fun i v hi => hx.cell0 ((h p hp).2.2 i v hi) (h p hp).1⟩
theorem Env.below {L : Lab} {w w' : World} {env : List (Nat × List Value)} (h : Env L w env) (hb : Below w.heap.size w w') : Env L w' env := h.shr (Shr.of_below hb L)
theorem Env.cell {L : Lab} {w : World} {env : List (Nat × List Value)} (h : Env L w env) (k i : Nat) {b : Nat} {vs : List Value} {v : Value} (hk : env[k]? = some (b, vs)) (hi : vs[i]? = some v) : w.cell? ⟨b, i, none⟩ = some v :=
  (h (b, vs) (List.mem_of_getElem? hk)).2.2 i v hi
theorem Env.cons {L : Lab} {w : World} {env : List (Nat × List Value)} {b : Nat} {vs : List Value} (h : Env L w env) (l : L b = 0) (hb : b < w.heap.size) (hc : ∀ i v, vs[i]? = some v → w.cell? ⟨b, i, none⟩ = some v) : Env L w ((b, vs) :: env) := by
  intro p hp
  rcases List.mem_cons.1 hp with rfl | hp
  · exact ⟨l, hb, hc⟩
  · exact h p hp
theorem Env.nil (L : Lab) (w : World) : Env L w [] := fun p hp => by cases hp
theorem Env.sub {L : Lab} {w : World} {env env' : List (Nat × List Value)} (h : Env L w env) (hs : ∀ p ∈ env', p ∈ env) : Env L w env' := fun p hp => h p (hs p hp)
/-- A new block is nobody's. -/
theorem Env.alloc {L : Lab} {w : World} {env : List (Nat × List Value)} (h : Env L w env) (hn : ∀ b, w.heap.size ≤ b → L b = 0) (vs : List Value) (ty : TypeId) : Env L (w.alloc (.cells vs.toArray ty)) ((w.heap.size, vs) :: env) := by
  refine (h.below ((Below.refl _ _).alloc (Nat.le_refl _) _)).cons (hn _ (Nat.le_refl _)) (by simp) ?_
  intro i v hi
  rw [World.cell?_alloc_new]
  simpa using hi

theorem Env.alloc_at {L : Lab} {w : World} {env : List (Nat × List Value)} (h : Env L w env) (hn : ∀ b, w.heap.size ≤ b → L b = 0) (vs : List Value) (ty : TypeId) {b : Nat} (hb : b = w.heap.size) : Env L (w.alloc (.cells vs.toArray ty)) ((b, vs) :: env) := by
  subst hb
  exact h.alloc hn vs ty
/-- What a continuation does with what it is handed. -/
theorem ConSim.call {ρ : Type} {cf : Cf} {R : ρ → Arg → St → St × Option (K ρ)} {E : G} {t : Nat} {sh : Arg → Prop} {n : Nat} {L : Lab} {w : World} {g : FuncId} {cap : Array Value} {c : C ρ} (h : ConSim cf R E t sh n L w (.func (.func g) #[] cap) c) {a : Arg} (ha : sh a) {S : St} (hg : Good E L S w) (hbd : Bd (app cf R c a S).1) :
    Calls Tryz.prog g (a.vals ++ cap) w (Post cf R E t n L w (app cf R c a S)) := by
  obtain ⟨f, cap', e, hf, hk⟩ := h
  injection e with e1 e2 e3
  injection e1 with e1
  subst e1
  subst e3
  exact hk a L w S ha (Ext.refl t L w) hg hbd

section
variable {ρ : Type} {cf : Cf} {R : ρ → Arg → St → St × Option (K ρ)} {E : G} {t : Nat}
theorem load_at (hR : RMono R) {n : Nat} {i : Int} {vk : Value} {c : C ρ} {L : Lab} {w : World} {S : St} (hg : Good E L S w) (hk : ConSim cf R E t isW n L w vk c) :
    Calls Tryz.prog 91 #[.pointer (some ⟨E.a, 0, none⟩), .int .i64 i, vk] w (Post cf R E t n L w (S, some (.load i c))) := (load_any hR hg hk).mono fun _ _ h => Post.down cf R E t h
theorem store_at (hR : RMono R) {n : Nat} {i : Int} {v : Nat} {vk : Value} {c : C ρ} {L : Lab} {w : World} {S : St} (hv : v < 18446744073709551616) (hg : Good E L S w) (hk : ConSim cf R E t isU n L w vk c) :
    Calls Tryz.prog 110 #[.pointer (some ⟨E.a, 0, none⟩), .int .i64 i, .int .u64 v, vk] w (Post cf R E t n L w (S, some (.store i v c))) := (store_any hR hv hg hk).mono fun _ _ h => Post.down cf R E t h
theorem cas_at (hR : RMono R) {n : Nat} {i : Int} {old v : Nat} {vk : Value} {c : C ρ} {L : Lab} {w : World} {S : St} (hv : v < 18446744073709551616) (hg : Good E L S w) (hk : ConSim cf R E t isB n L w vk c) :
    Calls Tryz.prog 104 #[.pointer (some ⟨E.a, 0, none⟩), .int .i64 i, .int .u64 old, .int .u64 v, vk] w (Post cf R E t n L w (S, some (.cas i old v c))) := (cas_any hR hv hg hk).mono fun _ _ h => Post.down cf R E t h
theorem idle_at {n : Nat} {vk : Value} {c : C ρ} {L : Lab} {w : World} {S : St} (hg : Good E L S w) (hk : ConSim cf R E t isU n L w vk c) :
    Calls Tryz.prog 88 #[vk] w (Post cf R E t n L w (S, some (.idle c))) := (idle_any hg hk).mono fun _ _ h => Post.down cf R E t h
theorem stk_nodes (hok : E.cf.Ok) : StkOk E 155 (Stk.nodes.link E.cf) := ⟨enters_of Tryz.func155 (by kernel_rfl) rfl, fun i W h => plan_NodeLink hok E.p i W h⟩
theorem stk_tickets (hok : E.cf.Ok) : StkOk E 100 (Stk.tickets.link E.cf) := ⟨enters_of Tryz.func100 (by kernel_rfl) rfl, fun i W h => plan_TicketLink hok E.p i W h⟩
theorem stk_box (hok : E.cf.Ok) : StkOk E 100 E.cf.ticketLink := stk_tickets hok
theorem pop_nodes (hR : RMono R) {vk : Value} {c : C ρ} {m : Nat} {L : Lab} {w : World} {S : St} (hg : Good E L S w) (hk : ConSim E.cf R E t isPop m L w vk c) :
    Calls Tryz.prog 25 #[nodesVal E, vk] w (Post E.cf R E t m L w (S, some (popK .nodes c))) := (pop_any hR (stk_nodes hg.ok) m L w S hg hk).mono fun _ _ h => Post.down E.cf R E t h
theorem pop_tickets (hR : RMono R) {vk : Value} {c : C ρ} {m : Nat} {L : Lab} {w : World} {S : St} (hg : Good E L S w) (hk : ConSim E.cf R E t isPop m L w vk c) :
    Calls Tryz.prog 25 #[ticketsVal E, vk] w (Post E.cf R E t m L w (S, some (popK .tickets c))) := (pop_any hR (stk_tickets hg.ok) m L w S hg hk).mono fun _ _ h => Post.down E.cf R E t h
theorem push_nodes (hR : RMono R) {i : Int} {vk : Value} {c : C ρ} {m : Nat} {L : Lab} {w : World} {S : St} (hg : Good E L S w) (hk : ConSim E.cf R E t isU m L w vk c) :
    Calls Tryz.prog 159 #[nodesVal E, .int .i64 i, vk] w (Post E.cf R E t m L w (S, some (pushK .nodes i c))) := (push_any hR (stk_nodes hg.ok) m L w S hg hk).mono fun _ _ h => Post.down E.cf R E t h
theorem push_tickets (hR : RMono R) {i : Int} {vk : Value} {c : C ρ} {m : Nat} {L : Lab} {w : World} {S : St} (hg : Good E L S w) (hk : ConSim E.cf R E t isU m L w vk c) :
    Calls Tryz.prog 159 #[ticketsVal E, .int .i64 i, vk] w (Post E.cf R E t m L w (S, some (pushK .tickets i c))) := (push_any hR (stk_tickets hg.ok) m L w S hg hk).mono fun _ _ h => Post.down E.cf R E t h
theorem write_at (hR : RMono R) {n : Nat} {tt g v nd d : Int} {vk : Value} {c : C ρ} {L : Lab} {w : World} {S : St} (hg : Good E L S w) (hgb : g < 9223372036854775808) (hvb : v < 9223372036854775808) (hnb : nd < 9223372036854775808) (hk : ConSim E.cf R E t isU n L w vk c) :
    Calls Tryz.prog 28 #[.pointer (some ⟨E.k, 0, none⟩), .int .i64 tt, .agg #[.int .i64 g, .int .i64 v, .int .i64 nd], .int .i64 d, vk] w (Post E.cf R E t n L w (S, some (writeK E.cf tt g v nd d c))) := (write_any hR hg hgb hvb hnb hk).mono fun _ _ h => Post.down E.cf R E t (Post.down E.cf R E t h)
end
section
variable {ρ : Type} {R0 : ρ → Arg → St → St × Option (K (PR ρ))} {E : G} {t : Nat}
theorem put_at (hR : RMono (prApp E.cf R0)) {s tk : Int} {vk : Value} {k : PR ρ} {m : Nat} {L : Lab} {w : World} {S : St} (hg : Good E L S w) (hk : ConSim E.cf (prApp E.cf R0) E t isU m L w vk (.ret k)) :
    Calls Tryz.prog 31 #[boxVal E s, .int .i64 tk, vk] w (Post E.cf (prApp E.cf R0) E t m L w (S, some (putK E.cf s tk k))) := (put_any hR (stk_box hg.ok) m L w S hg hk).mono fun _ _ h => Post.down E.cf (prApp E.cf R0) E t h
end

set_option maxHeartbeats 1000000 in
theorem core_note_any {E : G} {L : Lab} {S : St} {w : World} (hg : Good E L S w) (hn : S.log.length ≤ 1099511627775) (kind worker op hn' hgn nn ng time arg user err : Int) (yes : Bool)
    (hR : ∀ w, Calls Tryz.prog 235 #[.agg #[.int .i64 kind, .int .i64 worker, .int .i64 op, .int .i64 hn', .int .i64 hgn, .int .i64 nn, .int .i64 ng, .int .i64 time, .int .i64 arg, .int .i64 user, .bool yes, .int .i64 err]] w fun e w' => e = .returned (.bool true) ∧ Below w.heap.size w w') :
    Calls Tryz.prog 82 #[.pointer (some ⟨E.k, 0, none⟩), .agg #[.int .i64 kind, .int .i64 worker, .int .i64 op, .int .i64 hn', .int .i64 hgn, .int .i64 nn, .int .i64 ng, .int .i64 time, .int .i64 arg, .int .i64 user, .bool yes, .int .i64 err]] w fun e w' => ∃ L', e = .returned (.int .i64 0) ∧
      Noted E L S w ⟨kind, worker, op, hn', hgn, nn, ng, time, arg, user, yes, err⟩ L' w' := by
  have k0 := hg.k0
  have lk := cell_lt k0
  have HG := Go.Lib.hid hg
  have HR := Go.Lib.hid hR
  clear hg hR
  go_enter Tryz.func82, Tryz.ntmps82
  go_wp2
  have e0 : (w.alloc (.cells #[.int .i64 kind, .int .i64 worker, .int .i64 op, .int .i64 hn', .int .i64 hgn, .int .i64 nn, .int .i64 ng, .int .i64 time, .int .i64 arg, .int .i64 user, .bool yes, .int .i64 err] 101)).cell? ⟨w.heap.size, 0, none⟩ = some (.int .i64 kind) := by go_simp
  have e1 : (w.alloc (.cells #[.int .i64 kind, .int .i64 worker, .int .i64 op, .int .i64 hn', .int .i64 hgn, .int .i64 nn, .int .i64 ng, .int .i64 time, .int .i64 arg, .int .i64 user, .bool yes, .int .i64 err] 101)).cell? ⟨w.heap.size, 1, none⟩ = some (.int .i64 worker) := by go_simp
  have e2 : (w.alloc (.cells #[.int .i64 kind, .int .i64 worker, .int .i64 op, .int .i64 hn', .int .i64 hgn, .int .i64 nn, .int .i64 ng, .int .i64 time, .int .i64 arg, .int .i64 user, .bool yes, .int .i64 err] 101)).cell? ⟨w.heap.size, 2, none⟩ = some (.int .i64 op) := by go_simp
  have e3 : (w.alloc (.cells #[.int .i64 kind, .int .i64 worker, .int .i64 op, .int .i64 hn', .int .i64 hgn, .int .i64 nn, .int .i64 ng, .int .i64 time, .int .i64 arg, .int .i64 user, .bool yes, .int .i64 err] 101)).cell? ⟨w.heap.size, 3, none⟩ = some (.int .i64 hn') := by go_simp
  have e4 : (w.alloc (.cells #[.int .i64 kind, .int .i64 worker, .int .i64 op, .int .i64 hn', .int .i64 hgn, .int .i64 nn, .int .i64 ng, .int .i64 time, .int .i64 arg, .int .i64 user, .bool yes, .int .i64 err] 101)).cell? ⟨w.heap.size, 4, none⟩ = some (.int .i64 hgn) := by go_simp
  have e5 : (w.alloc (.cells #[.int .i64 kind, .int .i64 worker, .int .i64 op, .int .i64 hn', .int .i64 hgn, .int .i64 nn, .int .i64 ng, .int .i64 time, .int .i64 arg, .int .i64 user, .bool yes, .int .i64 err] 101)).cell? ⟨w.heap.size, 5, none⟩ = some (.int .i64 nn) := by go_simp
  have e6 : (w.alloc (.cells #[.int .i64 kind, .int .i64 worker, .int .i64 op, .int .i64 hn', .int .i64 hgn, .int .i64 nn, .int .i64 ng, .int .i64 time, .int .i64 arg, .int .i64 user, .bool yes, .int .i64 err] 101)).cell? ⟨w.heap.size, 6, none⟩ = some (.int .i64 ng) := by go_simp
  have e7 : (w.alloc (.cells #[.int .i64 kind, .int .i64 worker, .int .i64 op, .int .i64 hn', .int .i64 hgn, .int .i64 nn, .int .i64 ng, .int .i64 time, .int .i64 arg, .int .i64 user, .bool yes, .int .i64 err] 101)).cell? ⟨w.heap.size, 7, none⟩ = some (.int .i64 time) := by go_simp
  have e8 : (w.alloc (.cells #[.int .i64 kind, .int .i64 worker, .int .i64 op, .int .i64 hn', .int .i64 hgn, .int .i64 nn, .int .i64 ng, .int .i64 time, .int .i64 arg, .int .i64 user, .bool yes, .int .i64 err] 101)).cell? ⟨w.heap.size, 8, none⟩ = some (.int .i64 arg) := by go_simp
  have e9 : (w.alloc (.cells #[.int .i64 kind, .int .i64 worker, .int .i64 op, .int .i64 hn', .int .i64 hgn, .int .i64 nn, .int .i64 ng, .int .i64 time, .int .i64 arg, .int .i64 user, .bool yes, .int .i64 err] 101)).cell? ⟨w.heap.size, 9, none⟩ = some (.int .i64 user) := by go_simp
  have e10 : (w.alloc (.cells #[.int .i64 kind, .int .i64 worker, .int .i64 op, .int .i64 hn', .int .i64 hgn, .int .i64 nn, .int .i64 ng, .int .i64 time, .int .i64 arg, .int .i64 user, .bool yes, .int .i64 err] 101)).cell? ⟨w.heap.size, 10, none⟩ = some (.bool yes) := by go_simp
  have e11 : (w.alloc (.cells #[.int .i64 kind, .int .i64 worker, .int .i64 op, .int .i64 hn', .int .i64 hgn, .int .i64 nn, .int .i64 ng, .int .i64 time, .int .i64 arg, .int .i64 user, .bool yes, .int .i64 err] 101)).cell? ⟨w.heap.size, 11, none⟩ = some (.int .i64 err) := by go_simp
  have hb : Below w.heap.size w (w.alloc (.cells #[.int .i64 kind, .int .i64 worker, .int .i64 op, .int .i64 hn', .int .i64 hgn, .int .i64 nn, .int .i64 ng, .int .i64 time, .int .i64 arg, .int .i64 user, .bool yes, .int .i64 err] 101)) := (Below.refl _ _).alloc (Nat.le_refl _) _
  generalize (w.alloc (.cells #[.int .i64 kind, .int .i64 worker, .int .i64 op, .int .i64 hn', .int .i64 hgn, .int .i64 nn, .int .i64 ng, .int .i64 time, .int .i64 arg, .int .i64 user, .bool yes, .int .i64 err] 101)) = W at *
  go_still_tail 4, (by kernel_rfl)
  change wpList _ _ _ _ _ (World.drew _)
  replace hb := hb.drew
  generalize World.drew W = W2 at *
  go_wp2_with fail
  refine (log_add (HG.out.below hb) hn kind worker op hn' hgn nn ng time arg user err yes HR.out).mono ?_
  rintro e w2 ⟨L', rfl, hno⟩
  have HNO := Go.Lib.hid (hno.of_below hb)
  clear hno
  go_wp2
  go_ret
  exact ⟨L', rfl, HNO.out⟩
end Go.Proofs.YtgemjjpmoejgdaaGreat
