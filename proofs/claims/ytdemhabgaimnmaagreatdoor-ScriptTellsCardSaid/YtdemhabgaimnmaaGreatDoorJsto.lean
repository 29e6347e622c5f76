/- knellref22.Entry of a Tick, of a Pick, of others. -/
import Derived.Test.YtdemhabgaimnmaaGreatDoorJstn
namespace Go.Proofs.YtdemhabgaimnmaaGreatDoor
open Go.RowKit
set_option maxRecDepth 100000
set_option linter.unusedVariables false

theorem eql_ent2 (x0 x1 x2 x3 x4 x5 x6 x7 y0 y1 y2 y3 y4 y5 y6 y7 : Int) (D : Bool) (h : D = true ↔ (⟨x0, x1, x2, x3, x4, x5, x6, x7⟩ : Ent) = ⟨y0, y1, y2, y3, y4, y5, y6, y7⟩) (w : World) : (binOp .eql 53 (.agg #[.int .i64 x0, .int .i64 x1, .int .i64 x2, .int .i64 x3, .int .i64 x4, .int .i64 x5, .int .i64 x6, .int .i64 x7]) (.agg #[.int .i64 y0, .int .i64 y1, .int .i64 y2, .int .i64 y3, .int .i64 y4, .int .i64 y5, .int .i64 y6, .int .i64 y7])).run Tryz.prog w = .ok (.bool D) w := by
  cases D with
  | true =>
    have e := h.1 rfl
    cases e
    go_simp
  | false =>
    have hne : ¬ (⟨x0, x1, x2, x3, x4, x5, x6, x7⟩ : Ent) = ⟨y0, y1, y2, y3, y4, y5, y6, y7⟩ := fun e => by have := h.2 e; cases this
    go_simp
    intro e0 e1 e2 e3 e4 e5 e6 e7
    exact hne (by rw [e0, e1, e2, e3, e4, e5, e6, e7])
def EntPost (e0 : Ent) (w : World) (e : Ending) (w' : World) : Prop :=
  ∃ v ok, e = .returned (.tuple #[v, .bool ok]) ∧ Below w.heap.size w w' ∧ (ok = true ↔ (layP e0).isSome = true) ∧ ∀ bs, layP e0 = some bs → KBb w'.heap.size w' v bs
theorem EntPost.no {e0 : Ent} {w w' : World} {v : Value} (hb : Below w.heap.size w w') (h : layP e0 = none) : EntPost e0 w (.returned (.tuple #[v, .bool false])) w' :=
  ⟨_, false, rfl, hb, by rw [h]; simp, fun bs q => by rw [h] at q; cases q⟩
theorem KBb.drewN {w : World} {v : Value} {l : List Nat} (h : KBb w.heap.size w v l) (n : Nat) : KBb (w.drewN n).heap.size (w.drewN n) v l := h.go (below_drewN n)
theorem bytes1 (n : Nat) (hn : n < 256) (W : World) : Calls Tryz.prog 20 #[.int .i64 (n : Nat), .int .i64 1] W fun e w' => ∃ v, e = .returned v ∧ KBb w'.heap.size w' v [n] ∧ OwnB W.heap.size w' v [n] ∧ Below W.heap.size W w' := by
  refine (ref22_Bytes (n : Nat) (by omega) 1 (by decide) W).mono ?_
  rintro e w' ⟨v, bs, rfl, h1, h2, h3, h4⟩
  have : bs = [n] := by
    rw [h2 (by omega)]
    show [(n : Int).toNat % 256] = _
    congr 1
    omega
  subst this
  exact ⟨v, rfl, KBb.own h3, h3, h4⟩
theorem wrap64_le (z : Int) : -9223372036854775808 ≤ IntKind.i64.wrap z ∧ IntKind.i64.wrap z ≤ 9223372036854775807 := by
  rw [IntKind.wrap_i64]
  omega
theorem bytesW (z : Int) (W : World) : Calls Tryz.prog 20 #[.int .i64 (IntKind.i64.wrap z), .int .i64 1] W fun e w' => ∃ v, e = .returned v ∧ Below W.heap.size W w' := by
  refine (ref22_Bytes (IntKind.i64.wrap z) (wrap64_le z) 1 (by decide) W).mono ?_
  rintro e w' ⟨v, bs, rfl, h1, h2, h3, h4⟩
  exact ⟨v, rfl, h4⟩

set_option maxHeartbeats 4000000 in
theorem ref22_Entry3 (a o n g t r u : Int) (w : World) : Calls Tryz.prog 21 #[.agg #[.int .i64 3, .int .i64 a, .int .i64 o, .int .i64 n, .int .i64 g, .int .i64 t, .int .i64 r, .int .i64 u]] w (EntPost ⟨3, a, o, n, g, t, r, u⟩ w) := by
  have HB := Go.Lib.hid (((Below.refl w.heap.size w).alloc (Nat.le_refl _) (.cells #[.int .i64 3, .int .i64 a, .int .i64 o, .int .i64 n, .int .i64 g, .int .i64 t, .int .i64 r, .int .i64 u] 53)).alloc (by rw [World.size_alloc]; omega) (.cells #[.int .i64 3, .int .i64 0, .int .i64 0, .int .i64 0, .int .i64 0, .int .i64 0, .int .i64 0, .int .i64 0] 53))
  have HA := Go.Lib.hid (row_below ((Below.refl _ (w.alloc (.cells #[.int .i64 3, .int .i64 a, .int .i64 o, .int .i64 n, .int .i64 g, .int .i64 t, .int .i64 r, .int .i64 u] 53))).alloc (Nat.le_refl _) (.cells #[.int .i64 3, .int .i64 0, .int .i64 0, .int .i64 0, .int .i64 0, .int .i64 0, .int .i64 0, .int .i64 0] 53)) (heap_alloc_new w (.cells #[.int .i64 3, .int .i64 a, .int .i64 o, .int .i64 n, .int .i64 g, .int .i64 t, .int .i64 r, .int .i64 u] 53)))
  have hbb := heap_alloc_new (w.alloc (.cells #[.int .i64 3, .int .i64 a, .int .i64 o, .int .i64 n, .int .i64 g, .int .i64 t, .int .i64 r, .int .i64 u] 53)) (.cells #[.int .i64 3, .int .i64 0, .int .i64 0, .int .i64 0, .int .i64 0, .int .i64 0, .int .i64 0, .int .i64 0] 53)
  rw [World.size_alloc] at hbb
  have HBB := Go.Lib.hid hbb
  clear hbb
  go_enter Tryz.func21, Tryz.ntmps21
  go_wp2_with fail
  generalize ((w.alloc (.cells #[.int .i64 3, .int .i64 a, .int .i64 o, .int .i64 n, .int .i64 g, .int .i64 t, .int .i64 r, .int .i64 u] 53)).alloc (.cells #[.int .i64 3, .int .i64 0, .int .i64 0, .int .i64 0, .int .i64 0, .int .i64 0, .int .i64 0, .int .i64 0] 53)) = W0 at *
  have q0 : W0.cell? ⟨w.heap.size, 0, none⟩ = some (.int .i64 3) := cell_of_row _ _ _ _ _ _ HA.out
  have q1 : W0.cell? ⟨w.heap.size, 1, none⟩ = some (.int .i64 a) := cell_of_row _ _ _ _ _ _ HA.out
  have q2 : W0.cell? ⟨w.heap.size, 2, none⟩ = some (.int .i64 o) := cell_of_row _ _ _ _ _ _ HA.out
  have q3 : W0.cell? ⟨w.heap.size, 3, none⟩ = some (.int .i64 n) := cell_of_row _ _ _ _ _ _ HA.out
  have q4 : W0.cell? ⟨w.heap.size, 4, none⟩ = some (.int .i64 g) := cell_of_row _ _ _ _ _ _ HA.out
  have q5 : W0.cell? ⟨w.heap.size, 5, none⟩ = some (.int .i64 t) := cell_of_row _ _ _ _ _ _ HA.out
  have q6 : W0.cell? ⟨w.heap.size, 6, none⟩ = some (.int .i64 r) := cell_of_row _ _ _ _ _ _ HA.out
  have q7 : W0.cell? ⟨w.heap.size, 7, none⟩ = some (.int .i64 u) := cell_of_row _ _ _ _ _ _ HA.out
  have r0 : W0.cell? ⟨w.heap.size + 1, 0, none⟩ = some (.int .i64 3) := cell_of_row _ _ _ _ _ _ HBB.out
  have r1 : W0.cell? ⟨w.heap.size + 1, 1, none⟩ = some (.int .i64 0) := cell_of_row _ _ _ _ _ _ HBB.out
  have r2 : W0.cell? ⟨w.heap.size + 1, 2, none⟩ = some (.int .i64 0) := cell_of_row _ _ _ _ _ _ HBB.out
  have r3 : W0.cell? ⟨w.heap.size + 1, 3, none⟩ = some (.int .i64 0) := cell_of_row _ _ _ _ _ _ HBB.out
  have r4 : W0.cell? ⟨w.heap.size + 1, 4, none⟩ = some (.int .i64 0) := cell_of_row _ _ _ _ _ _ HBB.out
  have r5 : W0.cell? ⟨w.heap.size + 1, 5, none⟩ = some (.int .i64 0) := cell_of_row _ _ _ _ _ _ HBB.out
  have r6 : W0.cell? ⟨w.heap.size + 1, 6, none⟩ = some (.int .i64 0) := cell_of_row _ _ _ _ _ _ HBB.out
  have r7 : W0.cell? ⟨w.heap.size + 1, 7, none⟩ = some (.int .i64 0) := cell_of_row _ _ _ _ _ _ HBB.out
  obtain ⟨D, hD⟩ := bool_of ((⟨3, a, o, n, g, t, r, u⟩ : Ent) = ⟨3, 0, 0, 0, 0, 0, 0, 0⟩)
  have HD := Go.Lib.hid hD
  have heq := fun W => eql_ent2 3 a o n g t r u 3 0 0 0 0 0 0 0 D hD W
  clear hD
  go_region_held3 (fun w' => w'.cell? ⟨w.heap.size, 0, none⟩ = some (.int .i64 3) ∧ w'.cell? ⟨w.heap.size, 1, none⟩ = some (.int .i64 a) ∧ w'.cell? ⟨w.heap.size, 2, none⟩ = some (.int .i64 o) ∧ w'.cell? ⟨w.heap.size, 3, none⟩ = some (.int .i64 n) ∧ w'.cell? ⟨w.heap.size, 4, none⟩ = some (.int .i64 g) ∧ w'.cell? ⟨w.heap.size, 5, none⟩ = some (.int .i64 t) ∧ w'.cell? ⟨w.heap.size, 6, none⟩ = some (.int .i64 r) ∧ w'.cell? ⟨w.heap.size, 7, none⟩ = some (.int .i64 u) ∧ w'.cell? ⟨w.heap.size + 1, 0, none⟩ = some (.int .i64 3) ∧ w'.cell? ⟨w.heap.size + 1, 1, none⟩ = some (.int .i64 0) ∧ w'.cell? ⟨w.heap.size + 1, 2, none⟩ = some (.int .i64 0) ∧ w'.cell? ⟨w.heap.size + 1, 3, none⟩ = some (.int .i64 0) ∧ w'.cell? ⟨w.heap.size + 1, 4, none⟩ = some (.int .i64 0) ∧ w'.cell? ⟨w.heap.size + 1, 5, none⟩ = some (.int .i64 0) ∧ w'.cell? ⟨w.heap.size + 1, 6, none⟩ = some (.int .i64 0) ∧ w'.cell? ⟨w.heap.size + 1, 7, none⟩ = some (.int .i64 0))
    (first | exact ⟨q0, q1, q2, q3, q4, q5, q6, q7, r0, r1, r2, r3, r4, r5, r6, r7⟩ | exact ⟨below_cell ((Below.refl _ _).alloc (Nat.le_refl _) _) q0, below_cell ((Below.refl _ _).alloc (Nat.le_refl _) _) q1, below_cell ((Below.refl _ _).alloc (Nat.le_refl _) _) q2, below_cell ((Below.refl _ _).alloc (Nat.le_refl _) _) q3, below_cell ((Below.refl _ _).alloc (Nat.le_refl _) _) q4, below_cell ((Below.refl _ _).alloc (Nat.le_refl _) _) q5, below_cell ((Below.refl _ _).alloc (Nat.le_refl _) _) q6, below_cell ((Below.refl _ _).alloc (Nat.le_refl _) _) q7, below_cell ((Below.refl _ _).alloc (Nat.le_refl _) _) r0, below_cell ((Below.refl _ _).alloc (Nat.le_refl _) _) r1, below_cell ((Below.refl _ _).alloc (Nat.le_refl _) _) r2, below_cell ((Below.refl _ _).alloc (Nat.le_refl _) _) r3, below_cell ((Below.refl _ _).alloc (Nat.le_refl _) _) r4, below_cell ((Below.refl _ _).alloc (Nat.le_refl _) _) r5, below_cell ((Below.refl _ _).alloc (Nat.le_refl _) _) r6, below_cell ((Below.refl _ _).alloc (Nat.le_refl _) _) r7⟩)
    (fail)
  all_goals
    go_wp2
    go_ret2
    refine ⟨_, D, rfl, HB.out.trans ((Below.refl _ _).drew.alloc HB.out.size _), ?_, fun bs hbs => ?_⟩
    · rw [HD.out]
      show _ ↔ (if (3 : Int) = 3 then (if (⟨3, a, o, n, g, t, r, u⟩ : Ent) = tickE then some [0] else none) else _).isSome = true
      rw [if_pos rfl]
      by_cases h : (⟨3, a, o, n, g, t, r, u⟩ : Ent) = tickE
      · rw [if_pos h]; exact ⟨fun _ => rfl, fun _ => h⟩
      · rw [if_neg h]; exact ⟨fun q => absurd q h, fun q => by cases q⟩
    · have h2 : (if (3 : Int) = 3 then (if (⟨3, a, o, n, g, t, r, u⟩ : Ent) = tickE then some [0] else none) else _) = some bs := hbs
      rw [if_pos rfl] at h2
      by_cases h : (⟨3, a, o, n, g, t, r, u⟩ : Ent) = tickE
      · rw [if_pos h] at h2
        cases h2
        exact (kb_cells (w := W0) (cs := #[.int .u8 0]) (t := 5) (l := [0]) rfl (by simp)).go (Below.refl _ _).drew
      · rw [if_neg h] at h2; cases h2

/-- What the slots hold while a Pick's bytes are made. -/
def tab7 (b : Nat) (a o n g t r u : Int) : List (Nat × Nat × Value) := [(0, 25, .pointer (some ⟨b, 1, none⟩)), (1, 26, .int .i64 a), (2, 27, .int .i64 (IntKind.i64.wrap (a * 4))), (3, 28, .int .i64 (IntKind.i64.wrap (IntKind.i64.wrap (a * 4) + 1))), (5, 30, .agg #[.int .i64 2, .int .i64 a, .int .i64 o, .int .i64 n, .int .i64 g, .int .i64 t, .int .i64 r, .int .i64 u]), (6, 31, .agg #[.int .i64 2, .int .i64 a, .int .i64 0, .int .i64 0, .int .i64 0, .int .i64 0, .int .i64 0, .int .i64 0]), (7, 32, .bool false), (8, 33, .bool false), (9, 34, undef), (10, 35, undef), (11, 36, undef), (12, 37, .bool false), (14, 3, .bool false)]
theorem tab7_n (b : Nat) (a o n g t r u : Int) : ((tab7 b a o n g t r u).map Prod.fst).Nodup := by
  show [0, 1, 2, 3, 5, 6, 7, 8, 9, 10, 11, 12, 14].Nodup
  decide
theorem tab7_4 (b : Nat) (a o n g t r u : Int) : (tab7 b a o n g t r u).all (fun p => decide (p.1 ≠ 4 ∧ p.2.1 ≠ 29)) = true := rfl
theorem tab7_13 (b : Nat) (a o n g t r u : Int) : (tab7 b a o n g t r u).all (fun p => decide (p.1 ≠ 13 ∧ p.2.1 ≠ 2)) = true := rfl
theorem tab7_c0 (b : Nat) (a o n g t r u : Int) : (tab7 b a o n g t r u).all (fun p => decide (p.1 = 0 ↔ p.2.1 = 25)) = true := rfl
theorem tab7_c1 (b : Nat) (a o n g t r u : Int) : (tab7 b a o n g t r u).all (fun p => decide (p.1 = 1 ↔ p.2.1 = 26)) = true := rfl
theorem tab7_c2 (b : Nat) (a o n g t r u : Int) : (tab7 b a o n g t r u).all (fun p => decide (p.1 = 2 ↔ p.2.1 = 27)) = true := rfl
theorem tab7_c3 (b : Nat) (a o n g t r u : Int) : (tab7 b a o n g t r u).all (fun p => decide (p.1 = 3 ↔ p.2.1 = 28)) = true := rfl
theorem tab7_c5 (b : Nat) (a o n g t r u : Int) : (tab7 b a o n g t r u).all (fun p => decide (p.1 = 5 ↔ p.2.1 = 30)) = true := rfl
theorem tab7_c6 (b : Nat) (a o n g t r u : Int) : (tab7 b a o n g t r u).all (fun p => decide (p.1 = 6 ↔ p.2.1 = 31)) = true := rfl
theorem tab7_c7 (b : Nat) (a o n g t r u : Int) : (tab7 b a o n g t r u).all (fun p => decide (p.1 = 7 ↔ p.2.1 = 32)) = true := rfl
theorem tab7_c8 (b : Nat) (a o n g t r u : Int) : (tab7 b a o n g t r u).all (fun p => decide (p.1 = 8 ↔ p.2.1 = 33)) = true := rfl
theorem tab7_c9 (b : Nat) (a o n g t r u : Int) : (tab7 b a o n g t r u).all (fun p => decide (p.1 = 9 ↔ p.2.1 = 34)) = true := rfl
theorem tab7_c10 (b : Nat) (a o n g t r u : Int) : (tab7 b a o n g t r u).all (fun p => decide (p.1 = 10 ↔ p.2.1 = 35)) = true := rfl
theorem tab7_c11 (b : Nat) (a o n g t r u : Int) : (tab7 b a o n g t r u).all (fun p => decide (p.1 = 11 ↔ p.2.1 = 36)) = true := rfl
theorem tab7_c12 (b : Nat) (a o n g t r u : Int) : (tab7 b a o n g t r u).all (fun p => decide (p.1 = 12 ↔ p.2.1 = 37)) = true := rfl
theorem tab7_c14 (b : Nat) (a o n g t r u : Int) : (tab7 b a o n g t r u).all (fun p => decide (p.1 = 14 ↔ p.2.1 = 3)) = true := rfl
set_option maxHeartbeats 4000000 in
theorem ref22_Entry2off (a o n g t r u : Int) (hne : ¬ (⟨2, a, o, n, g, t, r, u⟩ : Ent) = ⟨2, a, 0, 0, 0, 0, 0, 0⟩) (w : World) : Calls Tryz.prog 21 #[.agg #[.int .i64 2, .int .i64 a, .int .i64 o, .int .i64 n, .int .i64 g, .int .i64 t, .int .i64 r, .int .i64 u]] w (EntPost ⟨2, a, o, n, g, t, r, u⟩ w) := by
  have heq := fun W => eql_ent2 2 a o n g t r u 2 a 0 0 0 0 0 0 false ⟨fun q => (by cases q), fun q => absurd q hne⟩ W
  have HNO : Hid (layP ⟨2, a, o, n, g, t, r, u⟩ = none) := Go.Lib.hid (by rw [layP2, if_neg (fun q => hne q.2)])
  have HEQ := Go.Lib.hid heq
  clear hne heq
  have HB := Go.Lib.hid (((Below.refl w.heap.size w).alloc (Nat.le_refl _) (.cells #[.int .i64 2, .int .i64 a, .int .i64 o, .int .i64 n, .int .i64 g, .int .i64 t, .int .i64 r, .int .i64 u] 53)).alloc (by rw [World.size_alloc]; omega) (.cells #[.int .i64 2, .int .i64 a, .int .i64 0, .int .i64 0, .int .i64 0, .int .i64 0, .int .i64 0, .int .i64 0] 53))
  have HA := Go.Lib.hid (row_below ((Below.refl _ (w.alloc (.cells #[.int .i64 2, .int .i64 a, .int .i64 o, .int .i64 n, .int .i64 g, .int .i64 t, .int .i64 r, .int .i64 u] 53))).alloc (Nat.le_refl _) (.cells #[.int .i64 2, .int .i64 a, .int .i64 0, .int .i64 0, .int .i64 0, .int .i64 0, .int .i64 0, .int .i64 0] 53)) (heap_alloc_new w (.cells #[.int .i64 2, .int .i64 a, .int .i64 o, .int .i64 n, .int .i64 g, .int .i64 t, .int .i64 r, .int .i64 u] 53)))
  have hbb := heap_alloc_new (w.alloc (.cells #[.int .i64 2, .int .i64 a, .int .i64 o, .int .i64 n, .int .i64 g, .int .i64 t, .int .i64 r, .int .i64 u] 53)) (.cells #[.int .i64 2, .int .i64 a, .int .i64 0, .int .i64 0, .int .i64 0, .int .i64 0, .int .i64 0, .int .i64 0] 53)
  rw [World.size_alloc] at hbb
  have HBB := Go.Lib.hid hbb
  clear hbb
  go_enter Tryz.func21, Tryz.ntmps21
  go_wp2_with fail
  generalize ((w.alloc (.cells #[.int .i64 2, .int .i64 a, .int .i64 o, .int .i64 n, .int .i64 g, .int .i64 t, .int .i64 r, .int .i64 u] 53)).alloc (.cells #[.int .i64 2, .int .i64 a, .int .i64 0, .int .i64 0, .int .i64 0, .int .i64 0, .int .i64 0, .int .i64 0] 53)) = W0 at *
  have q0 : W0.cell? ⟨w.heap.size, 0, none⟩ = some (.int .i64 2) := cell_of_row _ _ _ _ _ _ HA.out
  have q1 : W0.cell? ⟨w.heap.size, 1, none⟩ = some (.int .i64 a) := cell_of_row _ _ _ _ _ _ HA.out
  have q2 : W0.cell? ⟨w.heap.size, 2, none⟩ = some (.int .i64 o) := cell_of_row _ _ _ _ _ _ HA.out
  have q3 : W0.cell? ⟨w.heap.size, 3, none⟩ = some (.int .i64 n) := cell_of_row _ _ _ _ _ _ HA.out
  have q4 : W0.cell? ⟨w.heap.size, 4, none⟩ = some (.int .i64 g) := cell_of_row _ _ _ _ _ _ HA.out
  have q5 : W0.cell? ⟨w.heap.size, 5, none⟩ = some (.int .i64 t) := cell_of_row _ _ _ _ _ _ HA.out
  have q6 : W0.cell? ⟨w.heap.size, 6, none⟩ = some (.int .i64 r) := cell_of_row _ _ _ _ _ _ HA.out
  have q7 : W0.cell? ⟨w.heap.size, 7, none⟩ = some (.int .i64 u) := cell_of_row _ _ _ _ _ _ HA.out
  have r0 : W0.cell? ⟨w.heap.size + 1, 0, none⟩ = some (.int .i64 2) := cell_of_row _ _ _ _ _ _ HBB.out
  have r1 : W0.cell? ⟨w.heap.size + 1, 1, none⟩ = some (.int .i64 a) := cell_of_row _ _ _ _ _ _ HBB.out
  have r2 : W0.cell? ⟨w.heap.size + 1, 2, none⟩ = some (.int .i64 0) := cell_of_row _ _ _ _ _ _ HBB.out
  have r3 : W0.cell? ⟨w.heap.size + 1, 3, none⟩ = some (.int .i64 0) := cell_of_row _ _ _ _ _ _ HBB.out
  have r4 : W0.cell? ⟨w.heap.size + 1, 4, none⟩ = some (.int .i64 0) := cell_of_row _ _ _ _ _ _ HBB.out
  have r5 : W0.cell? ⟨w.heap.size + 1, 5, none⟩ = some (.int .i64 0) := cell_of_row _ _ _ _ _ _ HBB.out
  have r6 : W0.cell? ⟨w.heap.size + 1, 6, none⟩ = some (.int .i64 0) := cell_of_row _ _ _ _ _ _ HBB.out
  have r7 : W0.cell? ⟨w.heap.size + 1, 7, none⟩ = some (.int .i64 0) := cell_of_row _ _ _ _ _ _ HBB.out
  go_cut [2, 3] from 25 to 37 (fun x y wx => y = .bool false ∧ Below W0.heap.size W0 wx)
  case first =>
    rename_i J1 K1 hJ1 hK1
    refine wp_region_frG [2, 3, 25, 26, 27, 28, 29, 30, 31, 32, 33, 34, 35, 36, 37] (tab7 w.heap.size a o n g t r u) (fun _ _ w' => Below W0.heap.size W0 w') (by kernel_rfl) (by kernel_rfl) (by kernel_rfl) (Below.refl _ _).drew ?_ ?_
    · refine ⟨?_, ?_, ?_, ?_, ?_, ?_, ?_, ?_, ?_, ?_, ?_, ?_, ?_, ?_, ?_, trivial⟩
      · intro listed a' w' hf hv hj hun hdep K hK
        have hsz : a'.tmps.size = 102 := hf.size
        have e1 : slotOf a' 1 = .pointer (some ⟨w.heap.size, 0, none⟩) := (hf.rest 1 (by decide)).trans rfl
        refine st_gen rfl ?_
        unfold Oper.wp execOp
        dsimp only
        rw [slot_eval, e1]
        go_simp
        exact hK _ _ (hf.put (by decide)) (hv.setAt 0 rfl (tab7_n _ _ _ _ _ _ _ _) (tab7_c0 _ _ _ _ _ _ _ _) (by rw [hsz]; decide)) hj
      · intro listed a' w' hf hv hj hun hdep K hK
        have hsz : a'.tmps.size = 102 := hf.size
        have e25 := hv.get 0 rfl (hdep 0 (by kernel_rfl))
        have q1 : w'.cell? ⟨w.heap.size, 1, none⟩ = some (.int .i64 a) := below_cell hj q1
        refine st_gen rfl ?_
        unfold Oper.wp execOp
        dsimp only
        rw [slot_eval, e25]
        go_simp
        exact hK _ _ (hf.put (by decide)) (hv.setAt 1 rfl (tab7_n _ _ _ _ _ _ _ _) (tab7_c1 _ _ _ _ _ _ _ _) (by rw [hsz]; decide)) hj
      · intro listed a' w' hf hv hj hun hdep K hK
        have hsz : a'.tmps.size = 102 := hf.size
        have e26 := hv.get 1 rfl (hdep 1 (by kernel_rfl))
        refine st_gen rfl ?_
        unfold Oper.wp execOp
        dsimp only
        rw [slot_eval, e26]
        go_simp
        exact hK _ _ (hf.put (by decide)) (hv.setAt 2 rfl (tab7_n _ _ _ _ _ _ _ _) (tab7_c2 _ _ _ _ _ _ _ _) (by rw [hsz]; decide)) hj
      · intro listed a' w' hf hv hj hun hdep K hK
        have hsz : a'.tmps.size = 102 := hf.size
        have e27 := hv.get 2 rfl (hdep 2 (by kernel_rfl))
        refine st_gen rfl ?_
        unfold Oper.wp execOp
        dsimp only
        rw [slot_eval, e27]
        go_simp
        exact hK _ _ (hf.put (by decide)) (hv.setAt 3 rfl (tab7_n _ _ _ _ _ _ _ _) (tab7_c3 _ _ _ _ _ _ _ _) (by rw [hsz]; decide)) hj
      · intro listed a' w' hf hv hj hun hdep K hK
        have hsz : a'.tmps.size = 102 := hf.size
        have e28 := hv.get 3 rfl (hdep 3 (by kernel_rfl))
        refine st_call #[.int .i64 (IntKind.i64.wrap (IntKind.i64.wrap (a * 4) + 1)), .int .i64 1] rfl (enters_of Tryz.func20 (by kernel_rfl) rfl) (by have ec : a'.eval (.const (.int .i64 1)) = .int .i64 1 := rfl; simp [slot_eval, e28, ec]) ?_
        refine (bytesW _ _).mono ?_
        rintro e w2 ⟨v, rfl, hb⟩
        exact ⟨_, rfl, hK _ _ (hf.put (by decide)) (hv.other (tab7_4 _ _ _ _ _ _ _ _)) (hj.trans (hb.mono hj.size))⟩
      · intro listed a' w' hf hv hj hun hdep K hK
        have hsz : a'.tmps.size = 102 := hf.size
        have e1 : slotOf a' 1 = .pointer (some ⟨w.heap.size, 0, none⟩) := (hf.rest 1 (by decide)).trans rfl
        have q0 : w'.cell? ⟨w.heap.size, 0, none⟩ = some (.int .i64 2) := below_cell hj q0
        have q1 : w'.cell? ⟨w.heap.size, 1, none⟩ = some (.int .i64 a) := below_cell hj q1
        have q2 : w'.cell? ⟨w.heap.size, 2, none⟩ = some (.int .i64 o) := below_cell hj q2
        have q3 : w'.cell? ⟨w.heap.size, 3, none⟩ = some (.int .i64 n) := below_cell hj q3
        have q4 : w'.cell? ⟨w.heap.size, 4, none⟩ = some (.int .i64 g) := below_cell hj q4
        have q5 : w'.cell? ⟨w.heap.size, 5, none⟩ = some (.int .i64 t) := below_cell hj q5
        have q6 : w'.cell? ⟨w.heap.size, 6, none⟩ = some (.int .i64 r) := below_cell hj q6
        have q7 : w'.cell? ⟨w.heap.size, 7, none⟩ = some (.int .i64 u) := below_cell hj q7
        refine st_gen rfl ?_
        unfold Oper.wp execOp
        dsimp only
        rw [slot_eval, e1]
        go_simp
        exact hK _ _ (hf.put (by decide)) (hv.setAt 4 rfl (tab7_n _ _ _ _ _ _ _ _) (tab7_c5 _ _ _ _ _ _ _ _) (by rw [hsz]; decide)) hj
      · intro listed a' w' hf hv hj hun hdep K hK
        have hsz : a'.tmps.size = 102 := hf.size
        have e4 : slotOf a' 4 = .pointer (some ⟨w.heap.size + 1, 0, none⟩) := (hf.rest 4 (by decide)).trans rfl
        have r0 : w'.cell? ⟨w.heap.size + 1, 0, none⟩ = some (.int .i64 2) := below_cell hj r0
        have r1 : w'.cell? ⟨w.heap.size + 1, 1, none⟩ = some (.int .i64 a) := below_cell hj r1
        have r2 : w'.cell? ⟨w.heap.size + 1, 2, none⟩ = some (.int .i64 0) := below_cell hj r2
        have r3 : w'.cell? ⟨w.heap.size + 1, 3, none⟩ = some (.int .i64 0) := below_cell hj r3
        have r4 : w'.cell? ⟨w.heap.size + 1, 4, none⟩ = some (.int .i64 0) := below_cell hj r4
        have r5 : w'.cell? ⟨w.heap.size + 1, 5, none⟩ = some (.int .i64 0) := below_cell hj r5
        have r6 : w'.cell? ⟨w.heap.size + 1, 6, none⟩ = some (.int .i64 0) := below_cell hj r6
        have r7 : w'.cell? ⟨w.heap.size + 1, 7, none⟩ = some (.int .i64 0) := below_cell hj r7
        refine st_gen rfl ?_
        unfold Oper.wp execOp
        dsimp only
        rw [slot_eval, e4]
        go_simp
        exact hK _ _ (hf.put (by decide)) (hv.setAt 5 rfl (tab7_n _ _ _ _ _ _ _ _) (tab7_c6 _ _ _ _ _ _ _ _) (by rw [hsz]; decide)) hj
      · intro listed a' w' hf hv hj hun hdep K hK
        have hsz : a'.tmps.size = 102 := hf.size
        have e30 := hv.get 4 rfl (hdep 5 (by kernel_rfl))
        have e31 := hv.get 5 rfl (hdep 6 (by kernel_rfl))
        refine st_gen rfl ?_
        unfold Oper.wp execOp
        dsimp only
        rw [slot_eval, slot_eval, e30, e31]
        have heq := HEQ.out
        go_simp
        exact hK _ _ (hf.put (by decide)) (hv.setAt 6 rfl (tab7_n _ _ _ _ _ _ _ _) (tab7_c7 _ _ _ _ _ _ _ _) (by rw [hsz]; decide)) hj
      · intro listed a' w' hf hv hj hun hdep K hK
        have hsz : a'.tmps.size = 102 := hf.size
        have e32 := hv.get 6 rfl (hdep 7 (by kernel_rfl))
        refine st_move _ rfl e32 ?_
        exact hK _ _ (hf.put (by decide)) (hv.setAt 7 rfl (tab7_n _ _ _ _ _ _ _ _) (tab7_c8 _ _ _ _ _ _ _ _) (by rw [hsz]; decide)) hj
      · intro listed a' w' hf hv hj hun hdep K hK
        have hsz : a'.tmps.size = 102 := hf.size
        have e33 := hv.get 7 rfl (hdep 8 (by kernel_rfl))
        refine st_off rfl rfl (d := 33) (by rw [hsz]; decide) e33 ?_
        exact hK _ _ (hf.put (by decide)) (hv.setAt 8 rfl (tab7_n _ _ _ _ _ _ _ _) (tab7_c9 _ _ _ _ _ _ _ _) (by rw [hsz]; decide)) hj
      · intro listed a' w' hf hv hj hun hdep K hK
        have hsz : a'.tmps.size = 102 := hf.size
        have e33 := hv.get 7 rfl (hdep 8 (by kernel_rfl))
        refine st_off rfl rfl (d := 33) (by rw [hsz]; decide) e33 ?_
        exact hK _ _ (hf.put (by decide)) (hv.setAt 9 rfl (tab7_n _ _ _ _ _ _ _ _) (tab7_c10 _ _ _ _ _ _ _ _) (by rw [hsz]; decide)) hj
      · intro listed a' w' hf hv hj hun hdep K hK
        have hsz : a'.tmps.size = 102 := hf.size
        have e33 := hv.get 7 rfl (hdep 8 (by kernel_rfl))
        refine st_off rfl rfl (d := 33) (by rw [hsz]; decide) e33 ?_
        exact hK _ _ (hf.put (by decide)) (hv.setAt 10 rfl (tab7_n _ _ _ _ _ _ _ _) (tab7_c11 _ _ _ _ _ _ _ _) (by rw [hsz]; decide)) hj
      · intro listed a' w' hf hv hj hun hdep K hK
        have hsz : a'.tmps.size = 102 := hf.size
        have e33 := hv.get 7 rfl (hdep 8 (by kernel_rfl))
        have e36 := hv.get 10 rfl (hdep 11 (by kernel_rfl))
        refine st_gen rfl ?_
        unfold Oper.wp execOp
        dsimp only
        rw [slot_eval, slot_eval, e33, e36]
        go_simp
        exact hK _ _ (hf.put (by decide)) (hv.setAt 11 rfl (tab7_n _ _ _ _ _ _ _ _) (tab7_c12 _ _ _ _ _ _ _ _) (by rw [hsz]; decide)) hj
      · intro listed a' w' hf hv hj hun hdep K hK
        have hsz : a'.tmps.size = 102 := hf.size
        refine st_assign _ rfl rfl ?_
        exact hK _ _ (hf.put (by decide)) (hv.other (tab7_13 _ _ _ _ _ _ _ _)) hj
      · intro listed a' w' hf hv hj hun hdep K hK
        have hsz : a'.tmps.size = 102 := hf.size
        have e37 := hv.get 11 rfl (hdep 12 (by kernel_rfl))
        refine st_assign _ rfl e37 ?_
        exact hK _ _ (hf.put (by decide)) (hv.setAt 12 rfl (tab7_n _ _ _ _ _ _ _ _) (tab7_c14 _ _ _ _ _ _ _ _) (by rw [hsz]; decide)) hj
    · intro listed a' w' hf hv hj hall
      have e3 := hv.get 12 rfl (hall 14 (by decide))
      refine hK1 _ _ (Met.intro (hJ1 _ _ ⟨slotOf a' 2, slotOf a' 3, slotOf a' 25, slotOf a' 26, slotOf a' 27, slotOf a' 28, slotOf a' 29, slotOf a' 30, slotOf a' 31, slotOf a' 32, slotOf a' 33, slotOf a' 34, slotOf a' 35, slotOf a' 36, slotOf a' 37, ⟨e3, hj⟩, ?lit⟩))
      refine hf.lit.trans ?_
      kernel_rfl
  case rest =>
    obtain ⟨rfl, hbx⟩ := hcut
    go_wp2
    go_ret2
    exact EntPost.no (HB.out.trans (hbx.mono HB.out.size)) HNO.out

set_option maxHeartbeats 4000000 in
theorem ref22_Entry2 (A : Nat) (hA : A < 64) (w : World) : Calls Tryz.prog 21 #[.agg #[.int .i64 2, .int .i64 (A : Nat), .int .i64 0, .int .i64 0, .int .i64 0, .int .i64 0, .int .i64 0, .int .i64 0]] w (EntPost ⟨2, (A : Nat), 0, 0, 0, 0, 0, 0⟩ w) := by
  obtain ⟨y, hy⟩ : ∃ y, y = A * 4 + 1 := ⟨_, rfl⟩
  have g1 : IntKind.i64.wrap ((A : Int) * 4) = (A : Int) * 4 := IntWalk.i64_in _ (by omega)
  have g2 : IntKind.i64.wrap ((A : Int) * 4 + 1) = (y : Int) := by rw [IntWalk.i64_in _ (by omega)]; omega
  have f5 : (0 : Int) ≤ (A : Int) := by omega
  have f6 : (A : Int) < 64 := by omega
  have HBY := Go.Lib.hid (fun W => bytes1 y (by omega) W)
  have HY := Go.Lib.hid hy
  have HIN : Hid (∀ W, Calls Tryz.prog 42 #[.int .i64 (A : Nat), .int .i64 64] W fun e w' => e = .returned (.bool true) ∧ w' = W) := Go.Lib.hid (fun W => by have := ref22_in (A : Nat) 64 W; rwa [decide_eq_true (show 0 ≤ (A : Int) ∧ (A : Int) < 64 by omega)] at this)
  clear hy
  have HB := Go.Lib.hid (((Below.refl w.heap.size w).alloc (Nat.le_refl _) (.cells #[.int .i64 2, .int .i64 (A : Nat), .int .i64 0, .int .i64 0, .int .i64 0, .int .i64 0, .int .i64 0, .int .i64 0] 53)).alloc (by rw [World.size_alloc]; omega) (.cells #[.int .i64 2, .int .i64 (A : Nat), .int .i64 0, .int .i64 0, .int .i64 0, .int .i64 0, .int .i64 0, .int .i64 0] 53))
  have HA := Go.Lib.hid (row_below ((Below.refl _ (w.alloc (.cells #[.int .i64 2, .int .i64 (A : Nat), .int .i64 0, .int .i64 0, .int .i64 0, .int .i64 0, .int .i64 0, .int .i64 0] 53))).alloc (Nat.le_refl _) (.cells #[.int .i64 2, .int .i64 (A : Nat), .int .i64 0, .int .i64 0, .int .i64 0, .int .i64 0, .int .i64 0, .int .i64 0] 53)) (heap_alloc_new w (.cells #[.int .i64 2, .int .i64 (A : Nat), .int .i64 0, .int .i64 0, .int .i64 0, .int .i64 0, .int .i64 0, .int .i64 0] 53)))
  have hbb := heap_alloc_new (w.alloc (.cells #[.int .i64 2, .int .i64 (A : Nat), .int .i64 0, .int .i64 0, .int .i64 0, .int .i64 0, .int .i64 0, .int .i64 0] 53)) (.cells #[.int .i64 2, .int .i64 (A : Nat), .int .i64 0, .int .i64 0, .int .i64 0, .int .i64 0, .int .i64 0, .int .i64 0] 53)
  rw [World.size_alloc] at hbb
  have HBB := Go.Lib.hid hbb
  clear hbb
  go_enter Tryz.func21, Tryz.ntmps21
  go_wp2_with fail
  generalize ((w.alloc (.cells #[.int .i64 2, .int .i64 (A : Nat), .int .i64 0, .int .i64 0, .int .i64 0, .int .i64 0, .int .i64 0, .int .i64 0] 53)).alloc (.cells #[.int .i64 2, .int .i64 (A : Nat), .int .i64 0, .int .i64 0, .int .i64 0, .int .i64 0, .int .i64 0, .int .i64 0] 53)) = W0 at *
  have q0 : W0.cell? ⟨w.heap.size, 0, none⟩ = some (.int .i64 2) := cell_of_row _ _ _ _ _ _ HA.out
  have q1 : W0.cell? ⟨w.heap.size, 1, none⟩ = some (.int .i64 (A : Nat)) := cell_of_row _ _ _ _ _ _ HA.out
  have q2 : W0.cell? ⟨w.heap.size, 2, none⟩ = some (.int .i64 0) := cell_of_row _ _ _ _ _ _ HA.out
  have q3 : W0.cell? ⟨w.heap.size, 3, none⟩ = some (.int .i64 0) := cell_of_row _ _ _ _ _ _ HA.out
  have q4 : W0.cell? ⟨w.heap.size, 4, none⟩ = some (.int .i64 0) := cell_of_row _ _ _ _ _ _ HA.out
  have q5 : W0.cell? ⟨w.heap.size, 5, none⟩ = some (.int .i64 0) := cell_of_row _ _ _ _ _ _ HA.out
  have q6 : W0.cell? ⟨w.heap.size, 6, none⟩ = some (.int .i64 0) := cell_of_row _ _ _ _ _ _ HA.out
  have q7 : W0.cell? ⟨w.heap.size, 7, none⟩ = some (.int .i64 0) := cell_of_row _ _ _ _ _ _ HA.out
  have r0 : W0.cell? ⟨w.heap.size + 1, 0, none⟩ = some (.int .i64 2) := cell_of_row _ _ _ _ _ _ HBB.out
  have r1 : W0.cell? ⟨w.heap.size + 1, 1, none⟩ = some (.int .i64 (A : Nat)) := cell_of_row _ _ _ _ _ _ HBB.out
  have r2 : W0.cell? ⟨w.heap.size + 1, 2, none⟩ = some (.int .i64 0) := cell_of_row _ _ _ _ _ _ HBB.out
  have r3 : W0.cell? ⟨w.heap.size + 1, 3, none⟩ = some (.int .i64 0) := cell_of_row _ _ _ _ _ _ HBB.out
  have r4 : W0.cell? ⟨w.heap.size + 1, 4, none⟩ = some (.int .i64 0) := cell_of_row _ _ _ _ _ _ HBB.out
  have r5 : W0.cell? ⟨w.heap.size + 1, 5, none⟩ = some (.int .i64 0) := cell_of_row _ _ _ _ _ _ HBB.out
  have r6 : W0.cell? ⟨w.heap.size + 1, 6, none⟩ = some (.int .i64 0) := cell_of_row _ _ _ _ _ _ HBB.out
  have r7 : W0.cell? ⟨w.heap.size + 1, 7, none⟩ = some (.int .i64 0) := cell_of_row _ _ _ _ _ _ HBB.out
  replace HB := Go.Lib.hid HB.out.drew
  go_region_held3 (fun w' => w'.cell? ⟨w.heap.size, 0, none⟩ = some (.int .i64 2) ∧ w'.cell? ⟨w.heap.size, 1, none⟩ = some (.int .i64 (A : Nat)) ∧ w'.cell? ⟨w.heap.size, 2, none⟩ = some (.int .i64 0) ∧ w'.cell? ⟨w.heap.size, 3, none⟩ = some (.int .i64 0) ∧ w'.cell? ⟨w.heap.size, 4, none⟩ = some (.int .i64 0) ∧ w'.cell? ⟨w.heap.size, 5, none⟩ = some (.int .i64 0) ∧ w'.cell? ⟨w.heap.size, 6, none⟩ = some (.int .i64 0) ∧ w'.cell? ⟨w.heap.size, 7, none⟩ = some (.int .i64 0) ∧ w'.cell? ⟨w.heap.size + 1, 0, none⟩ = some (.int .i64 2) ∧ w'.cell? ⟨w.heap.size + 1, 1, none⟩ = some (.int .i64 (A : Nat)) ∧ w'.cell? ⟨w.heap.size + 1, 2, none⟩ = some (.int .i64 0) ∧ w'.cell? ⟨w.heap.size + 1, 3, none⟩ = some (.int .i64 0) ∧ w'.cell? ⟨w.heap.size + 1, 4, none⟩ = some (.int .i64 0) ∧ w'.cell? ⟨w.heap.size + 1, 5, none⟩ = some (.int .i64 0) ∧ w'.cell? ⟨w.heap.size + 1, 6, none⟩ = some (.int .i64 0) ∧ w'.cell? ⟨w.heap.size + 1, 7, none⟩ = some (.int .i64 0))
    (first | exact ⟨q0, q1, q2, q3, q4, q5, q6, q7, r0, r1, r2, r3, r4, r5, r6, r7⟩)
    (first
      | (go_at_call 20; refine (HBY.out _).mono ?_; rintro e w1 ⟨v1, rfl, hk, _, hb⟩; have q0 := below_cell hb q0; have q1 := below_cell hb q1; have q2 := below_cell hb q2; have q3 := below_cell hb q3; have q4 := below_cell hb q4; have q5 := below_cell hb q5; have q6 := below_cell hb q6; have q7 := below_cell hb q7; have r0 := below_cell hb r0; have r1 := below_cell hb r1; have r2 := below_cell hb r2; have r3 := below_cell hb r3; have r4 := below_cell hb r4; have r5 := below_cell hb r5; have r6 := below_cell hb r6; have r7 := below_cell hb r7; have HK := Go.Lib.hid hk; have HB := Go.Lib.hid (HB.out.trans (hb.mono HB.out.size)))
      | (go_at_call 42; refine (HIN.out _).mono ?_; rintro e w2 ⟨rfl, hw2⟩; subst hw2))
  all_goals
    go_wp2
    go_ret2
    have HL : layP ⟨2, (A : Nat), 0, 0, 0, 0, 0, 0⟩ = some [y] := by
      rw [layP2, if_pos ⟨⟨by omega, by omega⟩, rfl⟩, show ((A : Int) * 4 + 1).toNat = y by have := HY.out; omega]
    exact ⟨_, _, rfl, HB.out, by rw [HL]; simp, fun bs hbs => by rw [HL] at hbs; cases hbs; exact HK.out⟩

set_option maxHeartbeats 4000000 in
theorem ref22_Entry2no (a : Int) (hno : ¬ (0 ≤ a ∧ a < 64)) (w : World) : Calls Tryz.prog 21 #[.agg #[.int .i64 2, .int .i64 a, .int .i64 0, .int .i64 0, .int .i64 0, .int .i64 0, .int .i64 0, .int .i64 0]] w (EntPost ⟨2, a, 0, 0, 0, 0, 0, 0⟩ w) := by
  have HIN : Hid (∀ W, Calls Tryz.prog 42 #[.int .i64 a, .int .i64 64] W fun e w' => e = .returned (.bool false) ∧ w' = W) := Go.Lib.hid (fun W => by have := ref22_in a 64 W; rwa [decide_eq_false hno] at this)
  have HNO := Go.Lib.hid hno
  clear hno
  have HB := Go.Lib.hid (((Below.refl w.heap.size w).alloc (Nat.le_refl _) (.cells #[.int .i64 2, .int .i64 a, .int .i64 0, .int .i64 0, .int .i64 0, .int .i64 0, .int .i64 0, .int .i64 0] 53)).alloc (by rw [World.size_alloc]; omega) (.cells #[.int .i64 2, .int .i64 a, .int .i64 0, .int .i64 0, .int .i64 0, .int .i64 0, .int .i64 0, .int .i64 0] 53))
  have HA := Go.Lib.hid (row_below ((Below.refl _ (w.alloc (.cells #[.int .i64 2, .int .i64 a, .int .i64 0, .int .i64 0, .int .i64 0, .int .i64 0, .int .i64 0, .int .i64 0] 53))).alloc (Nat.le_refl _) (.cells #[.int .i64 2, .int .i64 a, .int .i64 0, .int .i64 0, .int .i64 0, .int .i64 0, .int .i64 0, .int .i64 0] 53)) (heap_alloc_new w (.cells #[.int .i64 2, .int .i64 a, .int .i64 0, .int .i64 0, .int .i64 0, .int .i64 0, .int .i64 0, .int .i64 0] 53)))
  have hbb := heap_alloc_new (w.alloc (.cells #[.int .i64 2, .int .i64 a, .int .i64 0, .int .i64 0, .int .i64 0, .int .i64 0, .int .i64 0, .int .i64 0] 53)) (.cells #[.int .i64 2, .int .i64 a, .int .i64 0, .int .i64 0, .int .i64 0, .int .i64 0, .int .i64 0, .int .i64 0] 53)
  rw [World.size_alloc] at hbb
  have HBB := Go.Lib.hid hbb
  clear hbb
  go_enter Tryz.func21, Tryz.ntmps21
  go_wp2_with fail
  generalize ((w.alloc (.cells #[.int .i64 2, .int .i64 a, .int .i64 0, .int .i64 0, .int .i64 0, .int .i64 0, .int .i64 0, .int .i64 0] 53)).alloc (.cells #[.int .i64 2, .int .i64 a, .int .i64 0, .int .i64 0, .int .i64 0, .int .i64 0, .int .i64 0, .int .i64 0] 53)) = W0 at *
  have q0 : W0.cell? ⟨w.heap.size, 0, none⟩ = some (.int .i64 2) := cell_of_row _ _ _ _ _ _ HA.out
  have q1 : W0.cell? ⟨w.heap.size, 1, none⟩ = some (.int .i64 a) := cell_of_row _ _ _ _ _ _ HA.out
  have q2 : W0.cell? ⟨w.heap.size, 2, none⟩ = some (.int .i64 0) := cell_of_row _ _ _ _ _ _ HA.out
  have q3 : W0.cell? ⟨w.heap.size, 3, none⟩ = some (.int .i64 0) := cell_of_row _ _ _ _ _ _ HA.out
  have q4 : W0.cell? ⟨w.heap.size, 4, none⟩ = some (.int .i64 0) := cell_of_row _ _ _ _ _ _ HA.out
  have q5 : W0.cell? ⟨w.heap.size, 5, none⟩ = some (.int .i64 0) := cell_of_row _ _ _ _ _ _ HA.out
  have q6 : W0.cell? ⟨w.heap.size, 6, none⟩ = some (.int .i64 0) := cell_of_row _ _ _ _ _ _ HA.out
  have q7 : W0.cell? ⟨w.heap.size, 7, none⟩ = some (.int .i64 0) := cell_of_row _ _ _ _ _ _ HA.out
  have r0 : W0.cell? ⟨w.heap.size + 1, 0, none⟩ = some (.int .i64 2) := cell_of_row _ _ _ _ _ _ HBB.out
  have r1 : W0.cell? ⟨w.heap.size + 1, 1, none⟩ = some (.int .i64 a) := cell_of_row _ _ _ _ _ _ HBB.out
  have r2 : W0.cell? ⟨w.heap.size + 1, 2, none⟩ = some (.int .i64 0) := cell_of_row _ _ _ _ _ _ HBB.out
  have r3 : W0.cell? ⟨w.heap.size + 1, 3, none⟩ = some (.int .i64 0) := cell_of_row _ _ _ _ _ _ HBB.out
  have r4 : W0.cell? ⟨w.heap.size + 1, 4, none⟩ = some (.int .i64 0) := cell_of_row _ _ _ _ _ _ HBB.out
  have r5 : W0.cell? ⟨w.heap.size + 1, 5, none⟩ = some (.int .i64 0) := cell_of_row _ _ _ _ _ _ HBB.out
  have r6 : W0.cell? ⟨w.heap.size + 1, 6, none⟩ = some (.int .i64 0) := cell_of_row _ _ _ _ _ _ HBB.out
  have r7 : W0.cell? ⟨w.heap.size + 1, 7, none⟩ = some (.int .i64 0) := cell_of_row _ _ _ _ _ _ HBB.out
  replace HB := Go.Lib.hid HB.out.drew
  go_region_held3 (fun w' => w'.cell? ⟨w.heap.size, 0, none⟩ = some (.int .i64 2) ∧ w'.cell? ⟨w.heap.size, 1, none⟩ = some (.int .i64 a) ∧ w'.cell? ⟨w.heap.size, 2, none⟩ = some (.int .i64 0) ∧ w'.cell? ⟨w.heap.size, 3, none⟩ = some (.int .i64 0) ∧ w'.cell? ⟨w.heap.size, 4, none⟩ = some (.int .i64 0) ∧ w'.cell? ⟨w.heap.size, 5, none⟩ = some (.int .i64 0) ∧ w'.cell? ⟨w.heap.size, 6, none⟩ = some (.int .i64 0) ∧ w'.cell? ⟨w.heap.size, 7, none⟩ = some (.int .i64 0) ∧ w'.cell? ⟨w.heap.size + 1, 0, none⟩ = some (.int .i64 2) ∧ w'.cell? ⟨w.heap.size + 1, 1, none⟩ = some (.int .i64 a) ∧ w'.cell? ⟨w.heap.size + 1, 2, none⟩ = some (.int .i64 0) ∧ w'.cell? ⟨w.heap.size + 1, 3, none⟩ = some (.int .i64 0) ∧ w'.cell? ⟨w.heap.size + 1, 4, none⟩ = some (.int .i64 0) ∧ w'.cell? ⟨w.heap.size + 1, 5, none⟩ = some (.int .i64 0) ∧ w'.cell? ⟨w.heap.size + 1, 6, none⟩ = some (.int .i64 0) ∧ w'.cell? ⟨w.heap.size + 1, 7, none⟩ = some (.int .i64 0))
    (first | exact ⟨q0, q1, q2, q3, q4, q5, q6, q7, r0, r1, r2, r3, r4, r5, r6, r7⟩)
    (first
      | (go_at_call 20; refine (bytesW _ _).mono ?_; rintro e w1 ⟨v1, rfl,  hb⟩; have q0 := below_cell hb q0; have q1 := below_cell hb q1; have q2 := below_cell hb q2; have q3 := below_cell hb q3; have q4 := below_cell hb q4; have q5 := below_cell hb q5; have q6 := below_cell hb q6; have q7 := below_cell hb q7; have r0 := below_cell hb r0; have r1 := below_cell hb r1; have r2 := below_cell hb r2; have r3 := below_cell hb r3; have r4 := below_cell hb r4; have r5 := below_cell hb r5; have r6 := below_cell hb r6; have r7 := below_cell hb r7; have HB := Go.Lib.hid (HB.out.trans (hb.mono HB.out.size)))
      | (go_at_call 42; refine (HIN.out _).mono ?_; rintro e w2 ⟨rfl, hw2⟩; subst hw2))
  all_goals
    go_wp2
    go_ret2
    exact EntPost.no HB.out (by rw [layP2, if_neg (fun q => HNO.out q.1)])

set_option maxHeartbeats 4000000 in
theorem ref22_Entry0 (k a o n g t r u : Int) (h3 : k ≠ 3) (h2 : k ≠ 2) (h1 : k ≠ 1) (w : World) : Calls Tryz.prog 21 #[.agg #[.int .i64 k, .int .i64 a, .int .i64 o, .int .i64 n, .int .i64 g, .int .i64 t, .int .i64 r, .int .i64 u]] w (EntPost ⟨k, a, o, n, g, t, r, u⟩ w) := by
  have k3 : (k == 3) = false := by simp [h3]
  have k2 : (k == 2) = false := by simp [h2]
  have k1 : (k == 1) = false := by simp [h1]
  have HL := Go.Lib.hid (layP0 (a := a) (o := o) (n := n) (g := g) (t := t) (r := r) (u := u) h3 h2 h1)
  clear h3 h2 h1
  have HB := Go.Lib.hid (((Below.refl w.heap.size w).alloc (Nat.le_refl _) (.cells #[.int .i64 k, .int .i64 a, .int .i64 o, .int .i64 n, .int .i64 g, .int .i64 t, .int .i64 r, .int .i64 u] 53)).alloc (by rw [World.size_alloc]; omega) (.cells #[.int .i64 k, .int .i64 a, .int .i64 0, .int .i64 0, .int .i64 0, .int .i64 0, .int .i64 0, .int .i64 0] 53))
  have HA := Go.Lib.hid (row_below ((Below.refl _ (w.alloc (.cells #[.int .i64 k, .int .i64 a, .int .i64 o, .int .i64 n, .int .i64 g, .int .i64 t, .int .i64 r, .int .i64 u] 53))).alloc (Nat.le_refl _) (.cells #[.int .i64 k, .int .i64 a, .int .i64 0, .int .i64 0, .int .i64 0, .int .i64 0, .int .i64 0, .int .i64 0] 53)) (heap_alloc_new w (.cells #[.int .i64 k, .int .i64 a, .int .i64 o, .int .i64 n, .int .i64 g, .int .i64 t, .int .i64 r, .int .i64 u] 53)))
  have hbb := heap_alloc_new (w.alloc (.cells #[.int .i64 k, .int .i64 a, .int .i64 o, .int .i64 n, .int .i64 g, .int .i64 t, .int .i64 r, .int .i64 u] 53)) (.cells #[.int .i64 k, .int .i64 a, .int .i64 0, .int .i64 0, .int .i64 0, .int .i64 0, .int .i64 0, .int .i64 0] 53)
  rw [World.size_alloc] at hbb
  have HBB := Go.Lib.hid hbb
  clear hbb
  go_enter Tryz.func21, Tryz.ntmps21
  go_wp2
  go_ret2
  exact EntPost.no HB.out HL.out

end Go.Proofs.YtdemhabgaimnmaaGreatDoor
