/- The word of a key that may not be. -/
import Derived.Test.YtlbjjooiiikmjaaGreatUc
namespace Go.Proofs.YtlbjjooiiikmjaaGreat
open Go.RowKit
set_option maxRecDepth 100000
set_option linter.unusedVariables false

set_option maxHeartbeats 4000000 in
theorem ref_WordKey_g_neg (g : Int) (v : Int) (n : Int) (hx : g < 0) (b d capb capd : Nat) (w : World) (h0 : w.cell? ⟨b, 0, none⟩ = some (.int .i64 g)) (h1 : w.cell? ⟨b, 1, none⟩ = some (.int .i64 v)) (h2 : w.cell? ⟨b, 2, none⟩ = some (.int .i64 n))
    (d0 : w.cell? ⟨d, 0, none⟩ = some (.int .i64 32)) (d1 : w.cell? ⟨d, 1, none⟩ = some (.int .i64 16)) (d2 : w.cell? ⟨d, 2, none⟩ = some (.int .i64 16)) :
    Calls Tryz.prog 20 #[.slice (some ⟨b, 0, none⟩) 3 capb, .slice (some ⟨d, 0, none⟩) 3 capd] w fun e w' => e = .returned (.tuple #[.int .u64 0, .int .i64 2]) ∧ Below w.heap.size w w' := by
  have P32 : ∀ w, Calls Tryz.prog 41 #[.int .i64 32] w fun e w' => e = .returned (.int .u64 4294967296) ∧ w' = w := fun w => ref_Power 32 (by omega) w
  have P16 : ∀ w, Calls Tryz.prog 41 #[.int .i64 16] w fun e w' => e = .returned (.int .u64 65536) ∧ w' = w := fun w => ref_Power 16 (by omega) w
  have mg : decide (g < 0) = true := by simp; omega
  have HP32 := Go.Lib.hid P32
  have HP16 := Go.Lib.hid P16
  clear P32 P16 hx
  go_enter Tryz.func20, Tryz.ntmps20
  go_wp2
  refine wp_loop_rounds 4 ?_
  rw [rounds_succ]
  go_wp2
  go_quiet (first | (go_at_call 41; refine Calls.quiet_of_same (HP32.out _)))
  have t1 : Below w.heap.size w (w.drewN nq) := below_drewN nq
  replace h0 := below_cell t1 h0
  replace h1 := below_cell t1 h1
  replace h2 := below_cell t1 h2
  replace d0 := below_cell t1 d0
  replace d1 := below_cell t1 d1
  replace d2 := below_cell t1 d2
  have T1 := t1
  clear t1
  generalize w.drewN nq = W1 at *
  go_wp2
  go_ret2
  exact ⟨rfl, T1⟩
set_option maxHeartbeats 4000000 in
theorem ref_WordKey_g_big (g : Int) (v : Int) (n : Int) (hx : 4294967296 ≤ g ∧ g < 9223372036854775808) (b d capb capd : Nat) (w : World) (h0 : w.cell? ⟨b, 0, none⟩ = some (.int .i64 g)) (h1 : w.cell? ⟨b, 1, none⟩ = some (.int .i64 v)) (h2 : w.cell? ⟨b, 2, none⟩ = some (.int .i64 n))
    (d0 : w.cell? ⟨d, 0, none⟩ = some (.int .i64 32)) (d1 : w.cell? ⟨d, 1, none⟩ = some (.int .i64 16)) (d2 : w.cell? ⟨d, 2, none⟩ = some (.int .i64 16)) :
    Calls Tryz.prog 20 #[.slice (some ⟨b, 0, none⟩) 3 capb, .slice (some ⟨d, 0, none⟩) 3 capd] w fun e w' => e = .returned (.tuple #[.int .u64 0, .int .i64 2]) ∧ Below w.heap.size w w' := by
  have P32 : ∀ w, Calls Tryz.prog 41 #[.int .i64 32] w fun e w' => e = .returned (.int .u64 4294967296) ∧ w' = w := fun w => ref_Power 32 (by omega) w
  have P16 : ∀ w, Calls Tryz.prog 41 #[.int .i64 16] w fun e w' => e = .returned (.int .u64 65536) ∧ w' = w := fun w => ref_Power 16 (by omega) w
  have wg : IntKind.u64.wrap g = g := IntWalk.u64_in _ (by omega)
  have lg : decide ((4294967296 : Int) ≤ g) = true := by simp; omega
  have mg : decide (g < 0) = false := by simp; omega
  have HP32 := Go.Lib.hid P32
  have HP16 := Go.Lib.hid P16
  clear P32 P16 hx
  go_enter Tryz.func20, Tryz.ntmps20
  go_wp2
  refine wp_loop_rounds 4 ?_
  rw [rounds_succ]
  go_wp2
  go_quiet (first | (go_at_call 41; refine Calls.quiet_of_same (HP32.out _)))
  have t1 : Below w.heap.size w (w.drewN nq) := below_drewN nq
  replace h0 := below_cell t1 h0
  replace h1 := below_cell t1 h1
  replace h2 := below_cell t1 h2
  replace d0 := below_cell t1 d0
  replace d1 := below_cell t1 d1
  replace d2 := below_cell t1 d2
  have T1 := t1
  clear t1
  generalize w.drewN nq = W1 at *
  go_wp2
  go_ret2
  exact ⟨rfl, T1⟩
set_option maxHeartbeats 4000000 in
theorem ref_WordKey_v_neg (g : Nat) (hg : g < 4294967296) (v : Int) (n : Int) (hx : v < 0) (b d capb capd : Nat) (w : World) (h0 : w.cell? ⟨b, 0, none⟩ = some (.int .i64 g)) (h1 : w.cell? ⟨b, 1, none⟩ = some (.int .i64 v)) (h2 : w.cell? ⟨b, 2, none⟩ = some (.int .i64 n))
    (d0 : w.cell? ⟨d, 0, none⟩ = some (.int .i64 32)) (d1 : w.cell? ⟨d, 1, none⟩ = some (.int .i64 16)) (d2 : w.cell? ⟨d, 2, none⟩ = some (.int .i64 16)) :
    Calls Tryz.prog 20 #[.slice (some ⟨b, 0, none⟩) 3 capb, .slice (some ⟨d, 0, none⟩) 3 capd] w fun e w' => e = .returned (.tuple #[.int .u64 0, .int .i64 2]) ∧ Below w.heap.size w w' := by
  have P32 : ∀ w, Calls Tryz.prog 41 #[.int .i64 32] w fun e w' => e = .returned (.int .u64 4294967296) ∧ w' = w := fun w => ref_Power 32 (by omega) w
  have P16 : ∀ w, Calls Tryz.prog 41 #[.int .i64 16] w fun e w' => e = .returned (.int .u64 65536) ∧ w' = w := fun w => ref_Power 16 (by omega) w
  have wg : IntKind.u64.wrap (g : Int) = g := IntWalk.u64_in _ (by omega)
  have lg : decide ((4294967296 : Int) ≤ (g : Int)) = false := by simp; omega
  have mg : decide ((g : Int) < 0) = false := by simp
  have mv : decide (v < 0) = true := by simp; omega
  have HP32 := Go.Lib.hid P32
  have HP16 := Go.Lib.hid P16
  clear P32 P16 hx
  go_enter Tryz.func20, Tryz.ntmps20
  go_wp2
  refine wp_loop_rounds 4 ?_
  rw [rounds_succ]
  go_wp2
  go_quiet (first | (go_at_call 41; refine Calls.quiet_of_same (HP32.out _)))
  have t1 : Below w.heap.size w (w.drewN nq) := below_drewN nq
  replace h0 := below_cell t1 h0
  replace h1 := below_cell t1 h1
  replace h2 := below_cell t1 h2
  replace d0 := below_cell t1 d0
  replace d1 := below_cell t1 d1
  replace d2 := below_cell t1 d2
  have T1 := t1
  clear t1
  generalize w.drewN nq = W1 at *
  go_wp2
  go_quiet (first | (go_at_call 41; refine Calls.quiet_of_same (HP32.out _)))
  have t2 : Below W1.heap.size W1 (W1.drewN nq) := below_drewN nq
  replace h0 := below_cell t2 h0
  replace h1 := below_cell t2 h1
  replace h2 := below_cell t2 h2
  replace d0 := below_cell t2 d0
  replace d1 := below_cell t2 d1
  replace d2 := below_cell t2 d2
  have T2 := T1.trans (t2.mono T1.size)
  clear t2
  generalize W1.drewN nq = W2 at *
  go_wp2
  rw [rounds_succ]
  go_wp2
  go_quiet (first | (go_at_call 41; refine Calls.quiet_of_same (HP16.out _)))
  have t3 : Below W2.heap.size W2 (W2.drewN nq) := below_drewN nq
  replace h0 := below_cell t3 h0
  replace h1 := below_cell t3 h1
  replace h2 := below_cell t3 h2
  replace d0 := below_cell t3 d0
  replace d1 := below_cell t3 d1
  replace d2 := below_cell t3 d2
  have T3 := T2.trans (t3.mono T2.size)
  clear t3
  generalize W2.drewN nq = W3 at *
  go_wp2
  go_ret2
  exact ⟨rfl, T3⟩
set_option maxHeartbeats 4000000 in
theorem ref_WordKey_v_big (g : Nat) (hg : g < 4294967296) (v : Int) (n : Int) (hx : 65536 ≤ v ∧ v < 9223372036854775808) (b d capb capd : Nat) (w : World) (h0 : w.cell? ⟨b, 0, none⟩ = some (.int .i64 g)) (h1 : w.cell? ⟨b, 1, none⟩ = some (.int .i64 v)) (h2 : w.cell? ⟨b, 2, none⟩ = some (.int .i64 n))
    (d0 : w.cell? ⟨d, 0, none⟩ = some (.int .i64 32)) (d1 : w.cell? ⟨d, 1, none⟩ = some (.int .i64 16)) (d2 : w.cell? ⟨d, 2, none⟩ = some (.int .i64 16)) :
    Calls Tryz.prog 20 #[.slice (some ⟨b, 0, none⟩) 3 capb, .slice (some ⟨d, 0, none⟩) 3 capd] w fun e w' => e = .returned (.tuple #[.int .u64 0, .int .i64 2]) ∧ Below w.heap.size w w' := by
  have P32 : ∀ w, Calls Tryz.prog 41 #[.int .i64 32] w fun e w' => e = .returned (.int .u64 4294967296) ∧ w' = w := fun w => ref_Power 32 (by omega) w
  have P16 : ∀ w, Calls Tryz.prog 41 #[.int .i64 16] w fun e w' => e = .returned (.int .u64 65536) ∧ w' = w := fun w => ref_Power 16 (by omega) w
  have wg : IntKind.u64.wrap (g : Int) = g := IntWalk.u64_in _ (by omega)
  have lg : decide ((4294967296 : Int) ≤ (g : Int)) = false := by simp; omega
  have mg : decide ((g : Int) < 0) = false := by simp
  have wv : IntKind.u64.wrap v = v := IntWalk.u64_in _ (by omega)
  have lv : decide ((65536 : Int) ≤ v) = true := by simp; omega
  have mv : decide (v < 0) = false := by simp; omega
  have HP32 := Go.Lib.hid P32
  have HP16 := Go.Lib.hid P16
  clear P32 P16 hx
  go_enter Tryz.func20, Tryz.ntmps20
  go_wp2
  refine wp_loop_rounds 4 ?_
  rw [rounds_succ]
  go_wp2
  go_quiet (first | (go_at_call 41; refine Calls.quiet_of_same (HP32.out _)))
  have t1 : Below w.heap.size w (w.drewN nq) := below_drewN nq
  replace h0 := below_cell t1 h0
  replace h1 := below_cell t1 h1
  replace h2 := below_cell t1 h2
  replace d0 := below_cell t1 d0
  replace d1 := below_cell t1 d1
  replace d2 := below_cell t1 d2
  have T1 := t1
  clear t1
  generalize w.drewN nq = W1 at *
  go_wp2
  go_quiet (first | (go_at_call 41; refine Calls.quiet_of_same (HP32.out _)))
  have t2 : Below W1.heap.size W1 (W1.drewN nq) := below_drewN nq
  replace h0 := below_cell t2 h0
  replace h1 := below_cell t2 h1
  replace h2 := below_cell t2 h2
  replace d0 := below_cell t2 d0
  replace d1 := below_cell t2 d1
  replace d2 := below_cell t2 d2
  have T2 := T1.trans (t2.mono T1.size)
  clear t2
  generalize W1.drewN nq = W2 at *
  go_wp2
  rw [rounds_succ]
  go_wp2
  go_quiet (first | (go_at_call 41; refine Calls.quiet_of_same (HP16.out _)))
  have t3 : Below W2.heap.size W2 (W2.drewN nq) := below_drewN nq
  replace h0 := below_cell t3 h0
  replace h1 := below_cell t3 h1
  replace h2 := below_cell t3 h2
  replace d0 := below_cell t3 d0
  replace d1 := below_cell t3 d1
  replace d2 := below_cell t3 d2
  have T3 := T2.trans (t3.mono T2.size)
  clear t3
  generalize W2.drewN nq = W3 at *
  go_wp2
  go_ret2
  exact ⟨rfl, T3⟩
set_option maxHeartbeats 4000000 in
theorem ref_WordKey_n_neg (g : Nat) (hg : g < 4294967296) (v : Nat) (hv : v < 65536) (n : Int) (hx : n < 0) (b d capb capd : Nat) (w : World) (h0 : w.cell? ⟨b, 0, none⟩ = some (.int .i64 g)) (h1 : w.cell? ⟨b, 1, none⟩ = some (.int .i64 v)) (h2 : w.cell? ⟨b, 2, none⟩ = some (.int .i64 n))
    (d0 : w.cell? ⟨d, 0, none⟩ = some (.int .i64 32)) (d1 : w.cell? ⟨d, 1, none⟩ = some (.int .i64 16)) (d2 : w.cell? ⟨d, 2, none⟩ = some (.int .i64 16)) :
    Calls Tryz.prog 20 #[.slice (some ⟨b, 0, none⟩) 3 capb, .slice (some ⟨d, 0, none⟩) 3 capd] w fun e w' => e = .returned (.tuple #[.int .u64 0, .int .i64 2]) ∧ Below w.heap.size w w' := by
  have P32 : ∀ w, Calls Tryz.prog 41 #[.int .i64 32] w fun e w' => e = .returned (.int .u64 4294967296) ∧ w' = w := fun w => ref_Power 32 (by omega) w
  have P16 : ∀ w, Calls Tryz.prog 41 #[.int .i64 16] w fun e w' => e = .returned (.int .u64 65536) ∧ w' = w := fun w => ref_Power 16 (by omega) w
  have wg : IntKind.u64.wrap (g : Int) = g := IntWalk.u64_in _ (by omega)
  have lg : decide ((4294967296 : Int) ≤ (g : Int)) = false := by simp; omega
  have mg : decide ((g : Int) < 0) = false := by simp
  have wv : IntKind.u64.wrap (v : Int) = v := IntWalk.u64_in _ (by omega)
  have lv : decide ((65536 : Int) ≤ (v : Int)) = false := by simp; omega
  have mv : decide ((v : Int) < 0) = false := by simp
  have mn : decide (n < 0) = true := by simp; omega
  have HP32 := Go.Lib.hid P32
  have HP16 := Go.Lib.hid P16
  have a1 : IntKind.u64.wrap ((g : Int) * 65536) = (g : Int) * 65536 := IntWalk.u64_in _ (by omega)
  have a2 : IntKind.u64.wrap ((g : Int) * 65536 + v) = (g : Int) * 65536 + v := IntWalk.u64_in _ (by omega)
  clear P32 P16 hx
  go_enter Tryz.func20, Tryz.ntmps20
  go_wp2
  refine wp_loop_rounds 4 ?_
  rw [rounds_succ]
  go_wp2
  go_quiet (first | (go_at_call 41; refine Calls.quiet_of_same (HP32.out _)))
  have t1 : Below w.heap.size w (w.drewN nq) := below_drewN nq
  replace h0 := below_cell t1 h0
  replace h1 := below_cell t1 h1
  replace h2 := below_cell t1 h2
  replace d0 := below_cell t1 d0
  replace d1 := below_cell t1 d1
  replace d2 := below_cell t1 d2
  have T1 := t1
  clear t1
  generalize w.drewN nq = W1 at *
  go_wp2
  go_quiet (first | (go_at_call 41; refine Calls.quiet_of_same (HP32.out _)))
  have t2 : Below W1.heap.size W1 (W1.drewN nq) := below_drewN nq
  replace h0 := below_cell t2 h0
  replace h1 := below_cell t2 h1
  replace h2 := below_cell t2 h2
  replace d0 := below_cell t2 d0
  replace d1 := below_cell t2 d1
  replace d2 := below_cell t2 d2
  have T2 := T1.trans (t2.mono T1.size)
  clear t2
  generalize W1.drewN nq = W2 at *
  go_wp2
  rw [rounds_succ]
  go_wp2
  go_quiet (first | (go_at_call 41; refine Calls.quiet_of_same (HP16.out _)))
  have t3 : Below W2.heap.size W2 (W2.drewN nq) := below_drewN nq
  replace h0 := below_cell t3 h0
  replace h1 := below_cell t3 h1
  replace h2 := below_cell t3 h2
  replace d0 := below_cell t3 d0
  replace d1 := below_cell t3 d1
  replace d2 := below_cell t3 d2
  have T3 := T2.trans (t3.mono T2.size)
  clear t3
  generalize W2.drewN nq = W3 at *
  go_wp2
  go_quiet (first | (go_at_call 41; refine Calls.quiet_of_same (HP16.out _)))
  have t4 : Below W3.heap.size W3 (W3.drewN nq) := below_drewN nq
  replace h0 := below_cell t4 h0
  replace h1 := below_cell t4 h1
  replace h2 := below_cell t4 h2
  replace d0 := below_cell t4 d0
  replace d1 := below_cell t4 d1
  replace d2 := below_cell t4 d2
  have T4 := T3.trans (t4.mono T3.size)
  clear t4
  generalize W3.drewN nq = W4 at *
  go_wp2
  rw [rounds_succ]
  go_wp2
  go_quiet (first | (go_at_call 41; refine Calls.quiet_of_same (HP16.out _)))
  have t5 : Below W4.heap.size W4 (W4.drewN nq) := below_drewN nq
  replace h0 := below_cell t5 h0
  replace h1 := below_cell t5 h1
  replace h2 := below_cell t5 h2
  replace d0 := below_cell t5 d0
  replace d1 := below_cell t5 d1
  replace d2 := below_cell t5 d2
  have T5 := T4.trans (t5.mono T4.size)
  clear t5
  generalize W4.drewN nq = W5 at *
  go_wp2
  go_ret2
  exact ⟨rfl, T5⟩
set_option maxHeartbeats 4000000 in
theorem ref_WordKey_n_big (g : Nat) (hg : g < 4294967296) (v : Nat) (hv : v < 65536) (n : Int) (hx : 65536 ≤ n ∧ n < 9223372036854775808) (b d capb capd : Nat) (w : World) (h0 : w.cell? ⟨b, 0, none⟩ = some (.int .i64 g)) (h1 : w.cell? ⟨b, 1, none⟩ = some (.int .i64 v)) (h2 : w.cell? ⟨b, 2, none⟩ = some (.int .i64 n))
    (d0 : w.cell? ⟨d, 0, none⟩ = some (.int .i64 32)) (d1 : w.cell? ⟨d, 1, none⟩ = some (.int .i64 16)) (d2 : w.cell? ⟨d, 2, none⟩ = some (.int .i64 16)) :
    Calls Tryz.prog 20 #[.slice (some ⟨b, 0, none⟩) 3 capb, .slice (some ⟨d, 0, none⟩) 3 capd] w fun e w' => e = .returned (.tuple #[.int .u64 0, .int .i64 2]) ∧ Below w.heap.size w w' := by
  have P32 : ∀ w, Calls Tryz.prog 41 #[.int .i64 32] w fun e w' => e = .returned (.int .u64 4294967296) ∧ w' = w := fun w => ref_Power 32 (by omega) w
  have P16 : ∀ w, Calls Tryz.prog 41 #[.int .i64 16] w fun e w' => e = .returned (.int .u64 65536) ∧ w' = w := fun w => ref_Power 16 (by omega) w
  have wg : IntKind.u64.wrap (g : Int) = g := IntWalk.u64_in _ (by omega)
  have lg : decide ((4294967296 : Int) ≤ (g : Int)) = false := by simp; omega
  have mg : decide ((g : Int) < 0) = false := by simp
  have wv : IntKind.u64.wrap (v : Int) = v := IntWalk.u64_in _ (by omega)
  have lv : decide ((65536 : Int) ≤ (v : Int)) = false := by simp; omega
  have mv : decide ((v : Int) < 0) = false := by simp
  have wn : IntKind.u64.wrap n = n := IntWalk.u64_in _ (by omega)
  have ln : decide ((65536 : Int) ≤ n) = true := by simp; omega
  have mn : decide (n < 0) = false := by simp; omega
  have HP32 := Go.Lib.hid P32
  have HP16 := Go.Lib.hid P16
  have a1 : IntKind.u64.wrap ((g : Int) * 65536) = (g : Int) * 65536 := IntWalk.u64_in _ (by omega)
  have a2 : IntKind.u64.wrap ((g : Int) * 65536 + v) = (g : Int) * 65536 + v := IntWalk.u64_in _ (by omega)
  clear P32 P16 hx
  go_enter Tryz.func20, Tryz.ntmps20
  go_wp2
  refine wp_loop_rounds 4 ?_
  rw [rounds_succ]
  go_wp2
  go_quiet (first | (go_at_call 41; refine Calls.quiet_of_same (HP32.out _)))
  have t1 : Below w.heap.size w (w.drewN nq) := below_drewN nq
  replace h0 := below_cell t1 h0
  replace h1 := below_cell t1 h1
  replace h2 := below_cell t1 h2
  replace d0 := below_cell t1 d0
  replace d1 := below_cell t1 d1
  replace d2 := below_cell t1 d2
  have T1 := t1
  clear t1
  generalize w.drewN nq = W1 at *
  go_wp2
  go_quiet (first | (go_at_call 41; refine Calls.quiet_of_same (HP32.out _)))
  have t2 : Below W1.heap.size W1 (W1.drewN nq) := below_drewN nq
  replace h0 := below_cell t2 h0
  replace h1 := below_cell t2 h1
  replace h2 := below_cell t2 h2
  replace d0 := below_cell t2 d0
  replace d1 := below_cell t2 d1
  replace d2 := below_cell t2 d2
  have T2 := T1.trans (t2.mono T1.size)
  clear t2
  generalize W1.drewN nq = W2 at *
  go_wp2
  rw [rounds_succ]
  go_wp2
  go_quiet (first | (go_at_call 41; refine Calls.quiet_of_same (HP16.out _)))
  have t3 : Below W2.heap.size W2 (W2.drewN nq) := below_drewN nq
  replace h0 := below_cell t3 h0
  replace h1 := below_cell t3 h1
  replace h2 := below_cell t3 h2
  replace d0 := below_cell t3 d0
  replace d1 := below_cell t3 d1
  replace d2 := below_cell t3 d2
  have T3 := T2.trans (t3.mono T2.size)
  clear t3
  generalize W2.drewN nq = W3 at *
  go_wp2
  go_quiet (first | (go_at_call 41; refine Calls.quiet_of_same (HP16.out _)))
  have t4 : Below W3.heap.size W3 (W3.drewN nq) := below_drewN nq
  replace h0 := below_cell t4 h0
  replace h1 := below_cell t4 h1
  replace h2 := below_cell t4 h2
  replace d0 := below_cell t4 d0
  replace d1 := below_cell t4 d1
  replace d2 := below_cell t4 d2
  have T4 := T3.trans (t4.mono T3.size)
  clear t4
  generalize W3.drewN nq = W4 at *
  go_wp2
  rw [rounds_succ]
  go_wp2
  go_quiet (first | (go_at_call 41; refine Calls.quiet_of_same (HP16.out _)))
  have t5 : Below W4.heap.size W4 (W4.drewN nq) := below_drewN nq
  replace h0 := below_cell t5 h0
  replace h1 := below_cell t5 h1
  replace h2 := below_cell t5 h2
  replace d0 := below_cell t5 d0
  replace d1 := below_cell t5 d1
  replace d2 := below_cell t5 d2
  have T5 := T4.trans (t5.mono T4.size)
  clear t5
  generalize W4.drewN nq = W5 at *
  go_wp2
  go_ret2
  exact ⟨rfl, T5⟩
/-- May a key be? -/
def keyI (g v n : Int) : Prop := (0 ≤ g ∧ g < 4294967296) ∧ (0 ≤ v ∧ v < 65536) ∧ (0 ≤ n ∧ n < 65536)
instance (g v n : Int) : Decidable (keyI g v n) := by unfold keyI; infer_instance
theorem ref_WordKey_no (g v n : Int) (hg : -9223372036854775808 ≤ g ∧ g < 9223372036854775808) (hv : -9223372036854775808 ≤ v ∧ v < 9223372036854775808) (hn : -9223372036854775808 ≤ n ∧ n < 9223372036854775808) (hk : ¬ keyI g v n) (b d capb capd : Nat) (w : World) (h0 : w.cell? ⟨b, 0, none⟩ = some (.int .i64 g)) (h1 : w.cell? ⟨b, 1, none⟩ = some (.int .i64 v)) (h2 : w.cell? ⟨b, 2, none⟩ = some (.int .i64 n))
    (d0 : w.cell? ⟨d, 0, none⟩ = some (.int .i64 32)) (d1 : w.cell? ⟨d, 1, none⟩ = some (.int .i64 16)) (d2 : w.cell? ⟨d, 2, none⟩ = some (.int .i64 16)) :
    Calls Tryz.prog 20 #[.slice (some ⟨b, 0, none⟩) 3 capb, .slice (some ⟨d, 0, none⟩) 3 capd] w fun e w' => e = .returned (.tuple #[.int .u64 0, .int .i64 2]) ∧ Below w.heap.size w w' := by
  by_cases g0 : g < 0
  · exact ref_WordKey_g_neg g v n g0 b d capb capd w h0 h1 h2 d0 d1 d2
  by_cases g1 : 4294967296 ≤ g
  · exact ref_WordKey_g_big g v n ⟨g1, hg.2⟩ b d capb capd w h0 h1 h2 d0 d1 d2
  obtain ⟨gn, rfl⟩ : ∃ m : Nat, g = (m : Int) := ⟨g.toNat, by omega⟩
  by_cases v0 : v < 0
  · exact ref_WordKey_v_neg gn (by omega) v n v0 b d capb capd w h0 h1 h2 d0 d1 d2
  by_cases v1 : 65536 ≤ v
  · exact ref_WordKey_v_big gn (by omega) v n ⟨v1, hv.2⟩ b d capb capd w h0 h1 h2 d0 d1 d2
  obtain ⟨vn, rfl⟩ : ∃ m : Nat, v = (m : Int) := ⟨v.toNat, by omega⟩
  by_cases n0 : n < 0
  · exact ref_WordKey_n_neg gn (by omega) vn (by omega) n n0 b d capb capd w h0 h1 h2 d0 d1 d2
  by_cases n1 : 65536 ≤ n
  · exact ref_WordKey_n_big gn (by omega) vn (by omega) n ⟨n1, hn.2⟩ b d capb capd w h0 h1 h2 d0 d1 d2
  exact absurd (show keyI gn vn n from ⟨⟨by omega, by omega⟩, ⟨by omega, by omega⟩, ⟨by omega, by omega⟩⟩) hk
end Go.Proofs.YtlbjjooiiikmjaaGreat

