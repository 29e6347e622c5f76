/- The document's key as a word. -/
import Derived.Test.YtlbjjooiiikmjaaGreatUa
namespace Go.Proofs.YtlbjjooiiikmjaaGreat
open Go.RowKit
set_option maxRecDepth 100000
set_option linter.unusedVariables false

set_option maxHeartbeats 4000000 in
theorem ref_WordKey (g v n : Nat) (hg : g < 4294967296) (hv : v < 65536) (hn : n < 65536) (b d capb capd : Nat) (w : World) (h0 : w.cell? ⟨b, 0, none⟩ = some (.int .i64 g)) (h1 : w.cell? ⟨b, 1, none⟩ = some (.int .i64 v)) (h2 : w.cell? ⟨b, 2, none⟩ = some (.int .i64 n))
    (d0 : w.cell? ⟨d, 0, none⟩ = some (.int .i64 32)) (d1 : w.cell? ⟨d, 1, none⟩ = some (.int .i64 16)) (d2 : w.cell? ⟨d, 2, none⟩ = some (.int .i64 16)) :
    Calls Tryz.prog 20 #[.slice (some ⟨b, 0, none⟩) 3 capb, .slice (some ⟨d, 0, none⟩) 3 capd] w fun e w' => e = .returned (.tuple #[.int .u64 ((g * 65536 + v) * 65536 + n : Nat), .int .i64 0]) ∧ Below w.heap.size w w' := by
  have P32 : ∀ w, Calls Tryz.prog 41 #[.int .i64 32] w fun e w' => e = .returned (.int .u64 4294967296) ∧ w' = w := fun w => ref_Power 32 (by omega) w
  have P16 : ∀ w, Calls Tryz.prog 41 #[.int .i64 16] w fun e w' => e = .returned (.int .u64 65536) ∧ w' = w := fun w => ref_Power 16 (by omega) w
  have wg : IntKind.u64.wrap (g : Int) = g := IntWalk.u64_in _ (by omega)
  have lg : decide ((4294967296 : Int) ≤ (g : Int)) = false := by simp; omega
  have mg : decide ((g : Int) < 0) = false := by simp
  have wv : IntKind.u64.wrap (v : Int) = v := IntWalk.u64_in _ (by omega)
  have lv : decide ((65536 : Int) ≤ (v : Int)) = false := by simp; omega
  have mv : decide ((v : Int) < 0) = false := by simp
  have wn : IntKind.u64.wrap (n : Int) = n := IntWalk.u64_in _ (by omega)
  have ln : decide ((65536 : Int) ≤ (n : Int)) = false := by simp; omega
  have mn : decide ((n : Int) < 0) = false := by simp
  have HP32 := Go.Lib.hid P32
  have HP16 := Go.Lib.hid P16
  clear P32 P16
  go_enter Tryz.func20, Tryz.ntmps20
  go_wp2
  have a1 : IntKind.u64.wrap ((g : Int) * 65536) = (g : Int) * 65536 := IntWalk.u64_in _ (by omega)
  have a2 : IntKind.u64.wrap ((g : Int) * 65536 + v) = (g : Int) * 65536 + v := IntWalk.u64_in _ (by omega)
  have a3 : IntKind.u64.wrap (((g : Int) * 65536 + v) * 65536) = ((g : Int) * 65536 + v) * 65536 := IntWalk.u64_in _ (by omega)
  have a4 : IntKind.u64.wrap (((g : Int) * 65536 + v) * 65536 + n) = ((g : Int) * 65536 + v) * 65536 + n := IntWalk.u64_in _ (by omega)
  refine wp_loop_rounds 4 ?_
  rw [rounds_succ]
  go_wp2
  go_quiet (first | (go_at_call 41; refine Calls.quiet_of_same (HP32.out _)))
  have t1 : Below w.heap.size w (w.drewN nq) := below_drewN nq
  replace h0 := below_cell t1 h0
  replace h1 := below_cell t1 h1
  replace h2 := below_cell t1 h2
  replace d0 := below_cell t1 d0
  replace d1 := below_cell t1 d1
  replace d2 := below_cell t1 d2
  have T1 := t1
  clear t1
  generalize w.drewN nq = W1 at *
  go_wp2
  go_quiet (first | (go_at_call 41; refine Calls.quiet_of_same (HP32.out _)))
  have t2 : Below W1.heap.size W1 (W1.drewN nq) := below_drewN nq
  replace h0 := below_cell t2 h0
  replace h1 := below_cell t2 h1
  replace h2 := below_cell t2 h2
  replace d0 := below_cell t2 d0
  replace d1 := below_cell t2 d1
  replace d2 := below_cell t2 d2
  have T2 := T1.trans (t2.mono T1.size)
  clear t2
  generalize W1.drewN nq = W2 at *
  go_wp2
  rw [rounds_succ]
  go_wp2
  go_quiet (first | (go_at_call 41; refine Calls.quiet_of_same (HP16.out _)))
  have t3 : Below W2.heap.size W2 (W2.drewN nq) := below_drewN nq
  replace h0 := below_cell t3 h0
  replace h1 := below_cell t3 h1
  replace h2 := below_cell t3 h2
  replace d0 := below_cell t3 d0
  replace d1 := below_cell t3 d1
  replace d2 := below_cell t3 d2
  have T3 := T2.trans (t3.mono T2.size)
  clear t3
  generalize W2.drewN nq = W3 at *
  go_wp2
  go_quiet (first | (go_at_call 41; refine Calls.quiet_of_same (HP16.out _)))
  have t4 : Below W3.heap.size W3 (W3.drewN nq) := below_drewN nq
  replace h0 := below_cell t4 h0
  replace h1 := below_cell t4 h1
  replace h2 := below_cell t4 h2
  replace d0 := below_cell t4 d0
  replace d1 := below_cell t4 d1
  replace d2 := below_cell t4 d2
  have T4 := T3.trans (t4.mono T3.size)
  clear t4
  generalize W3.drewN nq = W4 at *
  go_wp2
  rw [rounds_succ]
  go_wp2
  go_quiet (first | (go_at_call 41; refine Calls.quiet_of_same (HP16.out _)))
  have t5 : Below W4.heap.size W4 (W4.drewN nq) := below_drewN nq
  replace h0 := below_cell t5 h0
  replace h1 := below_cell t5 h1
  replace h2 := below_cell t5 h2
  replace d0 := below_cell t5 d0
  replace d1 := below_cell t5 d1
  replace d2 := below_cell t5 d2
  have T5 := T4.trans (t5.mono T4.size)
  clear t5
  generalize W4.drewN nq = W5 at *
  go_wp2
  go_quiet (first | (go_at_call 41; refine Calls.quiet_of_same (HP16.out _)))
  have t6 : Below W5.heap.size W5 (W5.drewN nq) := below_drewN nq
  replace h0 := below_cell t6 h0
  replace h1 := below_cell t6 h1
  replace h2 := below_cell t6 h2
  replace d0 := below_cell t6 d0
  replace d1 := below_cell t6 d1
  replace d2 := below_cell t6 d2
  have T6 := T5.trans (t6.mono T5.size)
  clear t6
  generalize W5.drewN nq = W6 at *
  go_wp2
  rw [rounds_succ]
  go_wp2
  go_ret2
  exact ⟨by rw [show (((g * 65536 + v) * 65536 + n : Nat) : Int) = ((g : Int) * 65536 + v) * 65536 + n from by omega]; rfl, T6⟩
end Go.Proofs.YtlbjjooiiikmjaaGreat

