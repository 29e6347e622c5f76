/- The document's words: widths, numbers of a word. -/
import Derived.Test.YtlbjjooiiikmjaaGreatTb
namespace Go.Proofs.YtlbjjooiiikmjaaGreat
open Go.RowKit
set_option maxRecDepth 100000
set_option linter.unusedVariables false

set_option maxHeartbeats 400000 in
theorem ref_Widths0 (w : World) : Calls Tryz.prog 16 #[.int .i64 0] w fun e w' => e = .returned (.slice (some ⟨w.heap.size, 0, none⟩) 3 3) ∧ w' = w.alloc (.cells #[.int .i64 32, .int .i64 30, .int .i64 2] 3) := by
  go_enter Tryz.func16, Tryz.ntmps16
  go_wp2
  go_ret
  exact ⟨rfl, rfl⟩
set_option maxHeartbeats 400000 in
theorem ref_Widths2 (w : World) : Calls Tryz.prog 16 #[.int .i64 2] w fun e w' => e = .returned (.slice (some ⟨w.heap.size, 0, none⟩) 3 3) ∧ w' = w.alloc (.cells #[.int .i64 32, .int .i64 16, .int .i64 16] 3) := by
  go_enter Tryz.func16, Tryz.ntmps16
  go_wp2
  go_ret
  exact ⟨rfl, rfl⟩
set_option maxHeartbeats 4000000 in
theorem ref_Numbers0 (x : Nat) (hx : x < 18446744073709551616) (b cap : Nat) (w : World) (h0 : w.cell? ⟨b, 0, none⟩ = some (.int .i64 32)) (h1 : w.cell? ⟨b, 1, none⟩ = some (.int .i64 30)) (h2 : w.cell? ⟨b, 2, none⟩ = some (.int .i64 2)) :
    Calls Tryz.prog 15 #[.int .u64 x, .slice (some ⟨b, 0, none⟩) 3 cap] w fun e w' => e = .returned (.slice (some ⟨w.heap.size, 0, none⟩) 3 3) ∧ w' = w.alloc (.cells #[.int .i64 (x / 4294967296 : Nat), .int .i64 (x / 4 % 1073741824 : Nat), .int .i64 (x % 4 : Nat)] 3) := by
  have lb := cell_lt h0
  have P32 : ∀ w, Calls Tryz.prog 41 #[.int .i64 32] w fun e w' => e = .returned (.int .u64 4294967296) ∧ w' = w := fun w => ref_Power 32 (by omega) w
  have P30 : ∀ w, Calls Tryz.prog 41 #[.int .i64 30] w fun e w' => e = .returned (.int .u64 1073741824) ∧ w' = w := fun w => ref_Power 30 (by omega) w
  have P2 : ∀ w, Calls Tryz.prog 41 #[.int .i64 2] w fun e w' => e = .returned (.int .u64 4) ∧ w' = w := fun w => ref_Power 2 (by omega) w
  have HP32 := Go.Lib.hid P32
  have HP30 := Go.Lib.hid P30
  have HP2 := Go.Lib.hid P2
  clear P32 P30 P2
  have hmk : ∀ w : World, (Instr.makeSlice 37 (.int .i64 3) (.int .i64 3)).run Tryz.prog w = .ok (.slice (some ⟨w.heap.size, 0, none⟩) 3 3) (w.alloc (.cells #[.int .i64 0, .int .i64 0, .int .i64 0] 3)) := fun w => by kernel_rfl
  go_enter Tryz.func15, Tryz.ntmps15
  go_wp2
  refine wp_loop_rounds 4 ?_
  rw [rounds_succ]
  go_wp2_with (go_at_call 41; refine (HP2.out _).mono ?_; rintro e w' ⟨rfl, rfl⟩)
  rw [rounds_succ]
  go_wp2_with (go_at_call 41; refine (HP30.out _).mono ?_; rintro e w' ⟨rfl, rfl⟩)
  rw [rounds_succ]
  go_wp2_with (go_at_call 41; refine (HP32.out _).mono ?_; rintro e w' ⟨rfl, rfl⟩)
  rw [rounds_succ]
  go_wp2
  go_ret
  refine ⟨rfl, ?_⟩
  rw [show (x : Int) / 4 / 1073741824 % 4294967296 = ((x / 4294967296 : Nat) : Int) from by omega, show (x : Int) / 4 % 1073741824 = ((x / 4 % 1073741824 : Nat) : Int) from by omega, show (x : Int) % 4 = ((x % 4 : Nat) : Int) from by omega]
end Go.Proofs.YtlbjjooiiikmjaaGreat

